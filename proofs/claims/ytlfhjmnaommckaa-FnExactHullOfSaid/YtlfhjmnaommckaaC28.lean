/- Contracts of the functions on lists of spans and their hull, for all lists that lie in memory; conditions: the bounds that each names. -/
import Derived.Test.YtlfhjmnaommckaaAb
import Derived.Test.YtlfhjmnaommckaaC1
import Derived.Test.YtlfhjmnaommckaaC2
import Derived.Test.YtlfhjmnaommckaaC3
import Derived.Test.YtlfhjmnaommckaaC4
import Derived.Test.YtlfhjmnaommckaaC5
import Derived.Test.YtlfhjmnaommckaaCL
import Derived.Test.YtlfhjmnaommckaaC6
import Derived.Test.YtlfhjmnaommckaaC7
import Derived.Test.YtlfhjmnaommckaaC8
import Derived.Test.YtlfhjmnaommckaaC9
import Derived.Test.YtlfhjmnaommckaaCO
import Derived.Test.YtlfhjmnaommckaaC10
import Derived.Test.YtlfhjmnaommckaaC12
import Derived.Test.YtlfhjmnaommckaaProg
set_option linter.unusedVariables false
set_option linter.unusedSimpArgs false
namespace Go.Proofs.Ytlfhjmnaommckaa
open Ab

abbrev sntoSp : Sp := .nf FS (fun x (l : List Sn) E => RowB Sn.cells 4 x.1 l E) (fun _ _ y => SlV.v y) (fun _ l y E E' => Made 76 4 Sn.cells y l E E')

set_option maxRecDepth 100000 in
theorem snto_ok : Sp.ok Try.prog 55 sntoSp := by
  have hc : ∀ x : Sn, (Sn.cells x).length = 4 := fun _ => rfl
  refine Sp.nf_ok (T := ⟨[(79, toSpanSp)], []⟩) follows eqok0 ⟨enters Try.func79 rfl rfl, toSpan_ok, trivial⟩ [] Try.func55 rfl (by kernel_rfl) _ _ _ _ fun x l E hp => ?_
  obtain ⟨⟨sa, n, c⟩, u⟩ := x
  obtain ⟨hp, hlen⟩ := hp
  have hp0 := hp
  obtain ⟨hn, hmax, hnone, _⟩ := hp
  dsimp only at hn hmax hnone hp0
  subst hn
  (repeat' ((conv => whnf); (first | with_reducible apply And.intro | (with_reducible intro hh; first | (with_reducible have hx := NewRow.self hh; clear hx) | (with_reducible have hrow := Made.row hh; have hle := Made.le hh; have hmade := hh; clear hh) | (with_reducible have hx := Ext.self hh; clear hx) | (with_reducible have hx := SlV.self hh; clear hx) | (with_reducible have hx := Value.self hh; clear hx) | with_reducible cases hh | skip) | (with_reducible apply AllEq.mk; intro yy hq) | with_reducible apply trivial | with_reducible apply Exists.intro () | (with_reducible apply ex_side; (first | with_reducible assumption | with_reducible apply fracs1 | with_reducible apply fracs2 | with_reducible apply fracs3 | with_reducible apply spans1 | with_reducible apply spans2 | (with_reducible apply NewRow.keep; with_reducible assumption) | (with_reducible apply RowAt.keep; with_reducible assumption) | assumption | (focus ((repeat (first | with_reducible assumption | (with_reducible apply RowAt.le; rotate_left; with_reducible assumption) | (with_reducible apply RowB.le; rotate_left; with_reducible assumption))); done)))) | (with_reducible apply ex_side (a := (_, _)); (focus (with_reducible apply And.intro <;> (focus ((repeat (first | with_reducible assumption | (with_reducible apply RowAt.le; rotate_left; with_reducible assumption) | (with_reducible apply RowB.le; rotate_left; with_reducible assumption))); done))))))); (all_goals (conv => whnf)))
  (all_goals (try dsimp only [Q.eta, Sn.eta, SlV.eta] at *)); (all_goals (first | exact Side.mk trivial | with_reducible exact Side.mk rfl | exact Side.mk (fun _ _ h => h) | exact Side.mk (Made.le (by assumption)) | refine Side.mk ?_ | refine Don.mk ?_ | skip))
  · omega
  refine ⟨fun m s => ∃ (k : Nat) (E' : Ext) (g1 g2 g5 g6 g7 g8 g9 g10 g11 g12 g13 g14 g15 g16 g17 g18 g19 g20 g21 g22 : AV), m = l.length - k ∧ k ≤ l.length ∧ Fill 4 Sn.cells l hh.b hh.to k E' ∧ s = ⟨[.v (.slice sa l.length c), g1, g2, .v (.slice (some ⟨hh.b, 0, none⟩) l.length l.length), .v (.int .i64 k), g5, g6, g7, g8, g9, g10, g11, g12, g13, g14, g15, g16, g17, g18, g19, g20, g21, g22], [], E'⟩, ⟨_, 0, hh.to, _, _, _, _, _, _, _, _, _, _, _, _, _, _, _, _, _, _, _, _, rfl, Nat.zero_le _, Fill.start, rfl⟩, ?_⟩
  rintro m s ⟨k, E', g1, g2, g5, g6, g7, g8, g9, g10, g11, g12, g13, g14, g15, g16, g17, g18, g19, g20, g21, g22, rfl, hk, hf, rfl⟩
  have hle : Ext.le E E' := hf.le (new_other hh)
  rcases hkl : l[k]? with _ | q
  · have hge := List.getElem?_eq_none_iff.1 hkl
    obtain rfl : k = l.length := by omega
    (repeat' ((conv => whnf); (first | with_reducible apply And.intro | (with_reducible intro hh; first | (with_reducible have hx := NewRow.self hh; clear hx) | (with_reducible have hrow := Made.row hh; have hle := Made.le hh; have hmade := hh; clear hh) | (with_reducible have hx := Ext.self hh; clear hx) | (with_reducible have hx := SlV.self hh; clear hx) | (with_reducible have hx := Value.self hh; clear hx) | with_reducible cases hh | skip) | (with_reducible apply AllEq.mk; intro yy hq) | with_reducible apply trivial | with_reducible apply Exists.intro () | (with_reducible apply ex_side; (first | with_reducible assumption | with_reducible apply fracs1 | with_reducible apply fracs2 | with_reducible apply fracs3 | with_reducible apply spans1 | with_reducible apply spans2 | (with_reducible apply NewRow.keep; with_reducible assumption) | (with_reducible apply RowAt.keep; with_reducible assumption) | assumption | (focus ((repeat (first | with_reducible assumption | (with_reducible apply RowAt.le; rotate_left; with_reducible assumption) | (with_reducible apply RowB.le; rotate_left; with_reducible assumption))); done)))) | (with_reducible apply ex_side (a := (_, _)); (focus (with_reducible apply And.intro <;> (focus ((repeat (first | with_reducible assumption | (with_reducible apply RowAt.le; rotate_left; with_reducible assumption) | (with_reducible apply RowB.le; rotate_left; with_reducible assumption))); done))))))); (all_goals (conv => whnf)))
    (all_goals (try dsimp only [Q.eta, Sn.eta, SlV.eta] at *)); (all_goals (first | exact Side.mk trivial | with_reducible exact Side.mk rfl | exact Side.mk (fun _ _ h => h) | exact Side.mk (Made.le (by assumption)) | refine Side.mk ?_ | refine Don.mk ?_ | skip))
    all_goals try (exfalso; have := of_decide_eq_true hh; omega)
    exact ⟨⟨some ⟨_, 0, none⟩, l.length, l.length⟩, rfl, hf.made rfl rfl (by omega)⟩
  · have hlt : k < l.length := (List.getElem?_eq_some_iff.1 hkl).1
    cases sa with
    | none => rw [hnone rfl] at hkl; cases hkl
    | some a =>
      have hp1 := hp0.le hle
      obtain ⟨h0, h1, h2, h3⟩ := SpansAt.at hp1 (a := a) rfl hkl
      (repeat' ((conv => whnf); (first | with_reducible apply And.intro | (with_reducible intro hh; first | (with_reducible have hx := NewRow.self hh; clear hx) | (with_reducible have hrow := Made.row hh; have hle := Made.le hh; have hmade := hh; clear hh) | (with_reducible have hx := Ext.self hh; clear hx) | (with_reducible have hx := SlV.self hh; clear hx) | (with_reducible have hx := Value.self hh; clear hx) | with_reducible cases hh | skip) | (with_reducible apply AllEq.mk; intro yy hq) | with_reducible apply trivial | with_reducible apply Exists.intro () | (with_reducible apply ex_side; (first | with_reducible assumption | with_reducible apply fracs1 | with_reducible apply fracs2 | with_reducible apply fracs3 | with_reducible apply spans1 | with_reducible apply spans2 | (with_reducible apply NewRow.keep; with_reducible assumption) | (with_reducible apply RowAt.keep; with_reducible assumption) | assumption | (focus ((repeat (first | with_reducible assumption | (with_reducible apply RowAt.le; rotate_left; with_reducible assumption) | (with_reducible apply RowB.le; rotate_left; with_reducible assumption))); done)))) | (with_reducible apply ex_side (a := (_, _)); (focus (with_reducible apply And.intro <;> (focus ((repeat (first | with_reducible assumption | (with_reducible apply RowAt.le; rotate_left; with_reducible assumption) | (with_reducible apply RowB.le; rotate_left; with_reducible assumption))); done))))))); (all_goals (conv => whnf)))
      (all_goals (try dsimp only [Q.eta, Sn.eta, SlV.eta] at *)); (all_goals (first | exact Side.mk trivial | with_reducible exact Side.mk rfl | exact Side.mk (fun _ _ h => h) | exact Side.mk (Made.le (by assumption)) | refine Side.mk ?_ | refine Don.mk ?_ | skip))
      all_goals first | exact ⟨by omega, by omega⟩ | (rw [addr_add, Nat.zero_add]; exact hf.owned rfl hlt) | skip
      · refine ⟨_, ?_, k + 1, _, _, _, _, _, _, _, _, _, _, _, _, _, _, _, _, _, _, _, _, _, rfl, hlt, ?_, by rw [wrap_succ hlt hmax]⟩
        · omega
        · rw [addr_add, Nat.zero_add]
          exact hf.step hc hkl
      · have := of_decide_eq_false hh
        omega
abbrev sneqSp : Sp := .rf SS (fun x (l : List Sn × List Sn) E => RowAt Sn.cells 4 x.1 l.1 E ∧ RowAt Sn.cells 4 x.2.1 l.2 E) (fun _ l => .bool (decide (l.1 = l.2)))

set_option maxRecDepth 100000 in
theorem sneq_ok : Sp.ok Try.prog 58 sneqSp := by
  refine Sp.rf_ok (T := ⟨[(57, eqSpanSp)], []⟩) follows eqok0 ⟨enters Try.func57 rfl rfl, eqSpan_ok, trivial⟩ [(6, .take 0 (.take 1 (.take 2 (.take 3 (.take 4 (.take 5 (.take 6 (.take 7 (.alt 8 (.take 9 (.done)) (.last))))))))))] Try.func58 rfl (by kernel_rfl) _ _ _ fun x l E hp => ?_
  obtain ⟨⟨sa, n, c⟩, ⟨sa', n', c'⟩, u⟩ := x
  obtain ⟨l, l'⟩ := l
  obtain ⟨hp, hp'⟩ := hp
  have hp1 := hp
  have hp1' := hp'
  obtain ⟨hn, hmax, hnone, _⟩ := hp
  obtain ⟨hn', hmax', hnone', _⟩ := hp'
  dsimp only at hn hmax hnone hn' hmax' hnone' hp1 hp1'
  (repeat' ((conv => whnf); (first | with_reducible apply And.intro | (with_reducible intro hh; first | (with_reducible have hx := NewRow.self hh; clear hx) | (with_reducible have hrow := Made.row hh; have hle := Made.le hh; have hmade := hh; clear hh) | (with_reducible have hx := Ext.self hh; clear hx) | (with_reducible have hx := SlV.self hh; clear hx) | (with_reducible have hx := Value.self hh; clear hx) | with_reducible cases hh | skip) | (with_reducible apply AllEq.mk; intro yy hq) | with_reducible apply trivial | with_reducible apply Exists.intro () | (with_reducible apply ex_side; (first | with_reducible assumption | with_reducible apply fracs1 | with_reducible apply fracs2 | with_reducible apply fracs3 | with_reducible apply spans1 | with_reducible apply spans2 | (with_reducible apply NewRow.keep; with_reducible assumption) | (with_reducible apply RowAt.keep; with_reducible assumption) | assumption | (focus ((repeat (first | with_reducible assumption | (with_reducible apply RowAt.le; rotate_left; with_reducible assumption) | (with_reducible apply RowB.le; rotate_left; with_reducible assumption))); done)))) | (with_reducible apply ex_side (a := (_, _)); (focus (with_reducible apply And.intro <;> (focus ((repeat (first | with_reducible assumption | (with_reducible apply RowAt.le; rotate_left; with_reducible assumption) | (with_reducible apply RowB.le; rotate_left; with_reducible assumption))); done))))))); (all_goals (conv => whnf)))
  (all_goals (try dsimp only [Q.eta, Sn.eta, SlV.eta] at *)); (all_goals (first | exact Side.mk trivial | with_reducible exact Side.mk rfl | exact Side.mk (fun _ _ h => h) | exact Side.mk (Made.le (by assumption)) | refine Side.mk ?_ | refine Don.mk ?_ | skip))
  · have : l ≠ l' := fun e => by subst e; simp_all
    simp [this]
  have hll : l.length = l'.length := by simp at hh; omega
  clear hh
  refine ⟨fun m s => ∃ (k : Nat) (g2 g3 g4 g6 g7 g8 g9 g10 g11 g12 g13 g14 g15 g16 g17 g18 g19 g20 g21 g22 g23 g24 g25 g26 : AV), m = l.length - k ∧ k ≤ l.length ∧ (∀ i, i < k → l[i]? = l'[i]?) ∧ s = ⟨[.v (.slice sa n c), .v (.slice sa' n' c'), g2, g3, g4, .v (.int .i64 k), g6, g7, g8, g9, g10, g11, g12, g13, g14, g15, g16, g17, g18, g19, g20, g21, g22, g23, g24, g25, g26], [], E⟩, ⟨_, 0, _, _, _, _, _, _, _, _, _, _, _, _, _, _, _, _, _, _, _, _, _, _, _, _, rfl, Nat.zero_le _, fun i hi => absurd hi (Nat.not_lt_zero _), rfl⟩, ?_⟩
  rintro m s ⟨k, g2, g3, g4, g6, g7, g8, g9, g10, g11, g12, g13, g14, g15, g16, g17, g18, g19, g20, g21, g22, g23, g24, g25, g26, rfl, hk, hv, rfl⟩
  rcases hkl : l[k]? with _ | q
  · have hge := List.getElem?_eq_none_iff.1 hkl
    (repeat' ((conv => whnf); (first | with_reducible apply And.intro | (with_reducible intro hh; first | (with_reducible have hx := NewRow.self hh; clear hx) | (with_reducible have hrow := Made.row hh; have hle := Made.le hh; have hmade := hh; clear hh) | (with_reducible have hx := Ext.self hh; clear hx) | (with_reducible have hx := SlV.self hh; clear hx) | (with_reducible have hx := Value.self hh; clear hx) | with_reducible cases hh | skip) | (with_reducible apply AllEq.mk; intro yy hq) | with_reducible apply trivial | with_reducible apply Exists.intro () | (with_reducible apply ex_side; (first | with_reducible assumption | with_reducible apply fracs1 | with_reducible apply fracs2 | with_reducible apply fracs3 | with_reducible apply spans1 | with_reducible apply spans2 | (with_reducible apply NewRow.keep; with_reducible assumption) | (with_reducible apply RowAt.keep; with_reducible assumption) | assumption | (focus ((repeat (first | with_reducible assumption | (with_reducible apply RowAt.le; rotate_left; with_reducible assumption) | (with_reducible apply RowB.le; rotate_left; with_reducible assumption))); done)))) | (with_reducible apply ex_side (a := (_, _)); (focus (with_reducible apply And.intro <;> (focus ((repeat (first | with_reducible assumption | (with_reducible apply RowAt.le; rotate_left; with_reducible assumption) | (with_reducible apply RowB.le; rotate_left; with_reducible assumption))); done))))))); (all_goals (conv => whnf)))
    (all_goals (try dsimp only [Q.eta, Sn.eta, SlV.eta] at *)); (all_goals (first | exact Side.mk trivial | with_reducible exact Side.mk rfl | exact Side.mk (fun _ _ h => h) | exact Side.mk (Made.le (by assumption)) | refine Side.mk ?_ | refine Don.mk ?_ | skip))
    all_goals try (exfalso; have := of_decide_eq_true hh; omega)
    have : l = l' := by
      apply List.ext_getElem?
      intro i
      by_cases hi : i < k
      · exact hv i hi
      · rw [List.getElem?_eq_none (by omega), List.getElem?_eq_none (by omega)]
    simp [this]
  · have hlt : k < l.length := (List.getElem?_eq_some_iff.1 hkl).1
    have hkl' : l'[k]? = some (l'[k]'(by omega)) := List.getElem?_eq_getElem (by omega)
    generalize l'[k]'(by omega) = q' at hkl'
    cases sa with
    | none => rw [hnone rfl] at hkl; cases hkl
    | some a =>
    cases sa' with
    | none => rw [hnone' rfl] at hkl'; cases hkl'
    | some a' =>
      obtain ⟨h0, h1, h2, h3⟩ := SpansAt.at hp1 (a := a) rfl hkl
      obtain ⟨g0, g1, g2, g3⟩ := SpansAt.at hp1' (a := a') rfl hkl'
      (repeat' ((conv => whnf); (first | with_reducible apply And.intro | (with_reducible intro hh; first | (with_reducible have hx := NewRow.self hh; clear hx) | (with_reducible have hrow := Made.row hh; have hle := Made.le hh; have hmade := hh; clear hh) | (with_reducible have hx := Ext.self hh; clear hx) | (with_reducible have hx := SlV.self hh; clear hx) | (with_reducible have hx := Value.self hh; clear hx) | with_reducible cases hh | skip) | (with_reducible apply AllEq.mk; intro yy hq) | with_reducible apply trivial | with_reducible apply Exists.intro () | (with_reducible apply ex_side; (first | with_reducible assumption | with_reducible apply fracs1 | with_reducible apply fracs2 | with_reducible apply fracs3 | with_reducible apply spans1 | with_reducible apply spans2 | (with_reducible apply NewRow.keep; with_reducible assumption) | (with_reducible apply RowAt.keep; with_reducible assumption) | assumption | (focus ((repeat (first | with_reducible assumption | (with_reducible apply RowAt.le; rotate_left; with_reducible assumption) | (with_reducible apply RowB.le; rotate_left; with_reducible assumption))); done)))) | (with_reducible apply ex_side (a := (_, _)); (focus (with_reducible apply And.intro <;> (focus ((repeat (first | with_reducible assumption | (with_reducible apply RowAt.le; rotate_left; with_reducible assumption) | (with_reducible apply RowB.le; rotate_left; with_reducible assumption))); done))))))); (all_goals (conv => whnf)))
      (all_goals (try dsimp only [Q.eta, Sn.eta, SlV.eta] at *)); (all_goals (first | exact Side.mk trivial | with_reducible exact Side.mk rfl | exact Side.mk (fun _ _ h => h) | exact Side.mk (Made.le (by assumption)) | refine Side.mk ?_ | refine Don.mk ?_ | skip))
      all_goals first | exact ⟨by omega, by omega⟩ | skip
      all_goals try (exfalso; have := of_decide_eq_false hh; omega)
      all_goals first | (have hne : q ≠ q' := by simpa using hh) | (have heq : q = q' := by simpa using hh)
      all_goals first | (have : l ≠ l' := fun e => hne (by rw [e, hkl'] at hkl; cases hkl; rfl); simp [this]; done) | skip
      all_goals refine ⟨_, ?_, k + 1, _, _, _, _, _, _, _, _, _, _, _, _, _, _, _, _, _, _, _, _, _, _, _, _, rfl, hlt, fun i hi => ?_, by rw [wrap_succ (n := n) (by omega) hmax]⟩
      all_goals first | omega | skip
      all_goals (by_cases hik : i = k; (subst hik; rw [hkl, hkl', heq]); exact hv i (by omega))

set_option maxRecDepth 100000 in
theorem szSn_ok : Sp.ok Try.prog 53 szSp := by
  refine Sp.pf_ok (T := ⟨[], []⟩) follows eqok0 trivial [] Try.func53 rfl (by kernel_rfl) _ _ _ fun x E hp => ?_
  obtain ⟨⟨sa, n, c⟩, left, u⟩ := x
  have hw := wrap_len hp.1 hp.2.1 hp.2.2
  dsimp only at hw
  (repeat' ((conv => whnf); (first | with_reducible apply And.intro | (with_reducible intro hh; first | (with_reducible have hx := NewRow.self hh; clear hx) | (with_reducible have hrow := Made.row hh; have hle := Made.le hh; have hmade := hh; clear hh) | (with_reducible have hx := Ext.self hh; clear hx) | (with_reducible have hx := SlV.self hh; clear hx) | (with_reducible have hx := Value.self hh; clear hx) | with_reducible cases hh | skip) | (with_reducible apply AllEq.mk; intro yy hq) | with_reducible apply trivial | with_reducible apply Exists.intro () | (with_reducible apply ex_side; (first | with_reducible assumption | with_reducible apply fracs1 | with_reducible apply fracs2 | with_reducible apply fracs3 | with_reducible apply spans1 | with_reducible apply spans2 | (with_reducible apply NewRow.keep; with_reducible assumption) | (with_reducible apply RowAt.keep; with_reducible assumption) | assumption | (focus ((repeat (first | with_reducible assumption | (with_reducible apply RowAt.le; rotate_left; with_reducible assumption) | (with_reducible apply RowB.le; rotate_left; with_reducible assumption))); done)))) | (with_reducible apply ex_side (a := (_, _)); (focus (with_reducible apply And.intro <;> (focus ((repeat (first | with_reducible assumption | (with_reducible apply RowAt.le; rotate_left; with_reducible assumption) | (with_reducible apply RowB.le; rotate_left; with_reducible assumption))); done))))))); (all_goals (conv => whnf)))
  (all_goals (try dsimp only [Q.eta, Sn.eta, SlV.eta] at *)); (all_goals (first | exact Side.mk trivial | with_reducible exact Side.mk rfl | exact Side.mk (fun _ _ h => h) | exact Side.mk (Made.le (by assumption)) | refine Side.mk ?_ | refine Don.mk ?_ | skip))
  all_goals simp only [hw] at *
  · rw [szR, if_pos (of_decide_eq_true hh)]
  · rw [szR, if_neg (of_decide_eq_false hh)]
/-! a span behind a pointer -/
abbrev AP : ArgL (Addr × Unit) := .cons .ptr .nil
abbrev spanXSp : Sp := .rf AP (fun x (s : Sn) E => PtrAt Sn.cells x.1 s E) (fun _ s => .bool (okS s))
set_option maxRecDepth 100000 in
theorem spanX_ok : Sp.ok Try.prog 124 spanXSp := by
  refine Sp.rf_ok (T := ⟨[(103, validSp), (105, cmpSp)], []⟩) follows eqok0 ⟨enters Try.func103 rfl rfl, spok_ok, enters Try.func105 rfl rfl, spcmp_ok, trivial⟩ [(1, .take 0 (.take 1 (.take 2 (.take 3 (.alt 4 (.take 5 (.take 6 (.take 7 (.take 8 (.take 9 (.alt 10 (.take 11 (.take 12 (.take 13 (.take 14 (.take 15 (.take 16 (.take 17 (.take 18 (.take 19 (.take 20 (.alt 21 (.take 22 (.take 23 (.take 24 (.done)))) (.last)))))))))))) (.last))))))) (.last))))))] Try.func124 rfl (by kernel_rfl) _ _ _ fun x s E hp => ?_
  obtain ⟨a, u⟩ := x
  obtain ⟨⟨p, q⟩, ⟨p', q'⟩⟩ := s
  dsimp only at hp
  have g0 : E ((a.add 0).add 0) = some (.int .i64 p) := by rw [Go.Deep.add_add]; exact hp 0 _ rfl
  have g1 : E ((a.add 0).add (0 + 1)) = some (.int .i64 q) := by rw [Go.Deep.add_add]; exact hp 1 _ rfl
  have g2 : E ((a.add 2).add 0) = some (.int .i64 p') := by rw [Go.Deep.add_add]; exact hp 2 _ rfl
  have g3 : E ((a.add 2).add (0 + 1)) = some (.int .i64 q') := by rw [Go.Deep.add_add]; exact hp 3 _ rfl
  (repeat' ((conv => whnf); (first | with_reducible apply And.intro | (with_reducible intro hh; first | (with_reducible have hx := NewRow.self hh; clear hx) | (with_reducible have hrow := Made.row hh; have hle := Made.le hh; have hmade := hh; clear hh) | (with_reducible have hx := Ext.self hh; clear hx) | (with_reducible have hx := SlV.self hh; clear hx) | (with_reducible have hx := Value.self hh; clear hx) | with_reducible cases hh | skip) | (with_reducible apply AllEq.mk; intro yy hq) | with_reducible apply trivial | with_reducible apply Exists.intro () | (with_reducible apply ex_side; (first | with_reducible assumption | with_reducible apply fracs1 | with_reducible apply fracs2 | with_reducible apply fracs3 | with_reducible apply spans1 | with_reducible apply spans2 | (with_reducible apply NewRow.keep; with_reducible assumption) | (with_reducible apply RowAt.keep; with_reducible assumption) | assumption | (focus ((repeat (first | with_reducible assumption | (with_reducible apply RowAt.le; rotate_left; with_reducible assumption) | (with_reducible apply RowB.le; rotate_left; with_reducible assumption))); done)))) | (with_reducible apply ex_side (a := (_, _)); (focus (with_reducible apply And.intro <;> (focus ((repeat (first | with_reducible assumption | (with_reducible apply RowAt.le; rotate_left; with_reducible assumption) | (with_reducible apply RowB.le; rotate_left; with_reducible assumption))); done))))))); (all_goals (conv => whnf)))
  (all_goals (try dsimp only [Q.eta, Sn.eta, SlV.eta] at *)); (all_goals (first | exact Side.mk trivial | with_reducible exact Side.mk rfl | exact Side.mk (fun _ _ h => h) | exact Side.mk (Made.le (by assumption)) | refine Side.mk ?_ | refine Don.mk ?_ | skip))
  · rename_i h1
    exact ⟨h1, hh⟩
  all_goals simp_all [okS]
/-! the hull -/
def hulF (b : Sn) : List Sn → Sn
  | [] => b
  | s :: r => hulF ⟨lesQ b.lo s.lo, greQ b.hi s.hi⟩ r
def hulR (l : List Sn) : Sn × Int := if allS l then (if l.length = 0 ∨ 64 < l.length then (⟨⟨0, 0⟩, ⟨0, 0⟩⟩, 2) else (hulF (l.getD 0 ⟨⟨0, 0⟩, ⟨0, 0⟩⟩) l, 0)) else (⟨⟨0, 0⟩, ⟨0, 0⟩⟩, 1)
abbrev hulSp : Sp := .rf FS (fun x (l : List Sn) E => SpansAt x.1 l E) (fun _ l => RS (hulR l))
theorem allS_at {l : List Sn} (h : allS l = true) {k : Nat} {s : Sn} (hk : l[k]? = some s) : okS s = true := by
  unfold allS at h
  rw [List.all_eq_true] at h
  exact h s (List.mem_of_getElem? hk)
theorem drop_at2 {α : Type} {l : List α} {k : Nat} {x : α} (h : l[k]? = some x) : l.drop k = x :: l.drop (k + 1) := by
  rw [List.drop_eq_getElem_cons (List.getElem?_eq_some_iff.1 h).1, (List.getElem?_eq_some_iff.1 h).2]
theorem cmpQ_self (a : Q) : cmpQ a a = 0 := by unfold cmpQ; simp
theorem hulF_self (b : Sn) (r : List Sn) : hulF b (b :: r) = hulF b r := by
  rw [hulF]
  unfold lesQ greQ
  simp [cmpQ_self]
theorem getD0 {α : Type} {l : List α} {d x : α} (h : l[0]? = some x) : l.getD 0 d = x := by rw [List.getD_eq_getElem?_getD, h]; rfl
theorem hulR_no {l : List Sn} (h : allS l = false) : hulR l = (⟨⟨0, 0⟩, ⟨0, 0⟩⟩, 1) := by unfold hulR; rw [if_neg (by simp [h])]
theorem hulR_len {l : List Sn} (h : allS l = true) (hl : l.length = 0 ∨ 64 < l.length) : hulR l = (⟨⟨0, 0⟩, ⟨0, 0⟩⟩, 2) := by unfold hulR; rw [if_pos h, if_pos hl]
theorem hulR_ok {l : List Sn} (h : allS l = true) (hl : ¬ (l.length = 0 ∨ 64 < l.length)) {s : Sn} (hs : l[0]? = some s) : hulR l = (hulF s l, 0) := by unfold hulR; rw [if_pos h, if_neg hl, getD0 hs]
theorem okP_hul {b s : Sn} (hb : okP b) (hs : okP s) : okP ⟨lesQ b.lo s.lo, greQ b.hi s.hi⟩ := ⟨lesQ_ok hb.1 hs.1, greQ_ok hb.2 hs.2⟩
theorem sn_at0 {s : SlV} {l : List Sn} {E : Ext} (h : SpansAt s l E) {a : Addr} (ha : s.a = some a) {q : Sn} (hk : l[0]? = some q) : E ((a.add ((0 : Int).toNat * 4)).add 0) = some (.int .i64 q.lo.p) ∧ E ((a.add ((0 : Int).toNat * 4)).add (0 + 1)) = some (.int .i64 q.lo.q) ∧ E ((a.add ((0 : Int).toNat * 4)).add (0 + 1 + 1)) = some (.int .i64 q.hi.p) ∧ E ((a.add ((0 : Int).toNat * 4)).add (0 + 1 + 1 + 1)) = some (.int .i64 q.hi.q) := SpansAt.at h ha hk

set_option maxHeartbeats 2000000 in
set_option maxRecDepth 100000 in
theorem hul_ok : Sp.ok Try.prog 56 hulSp := by
  refine Sp.rf_ok (T := ⟨[(127, spsSp), (128, lesSp), (129, greSp)], []⟩) follows eqok0 ⟨enters Try.func127 rfl rfl, sps_ok, enters Try.func128 rfl rfl, les_ok, enters Try.func129 rfl rfl, gre_ok, trivial⟩ [(9, .take 0 (.take 2 (.take 3 (.take 5 (.take 7 (.take 8 (.alt 1 (.alt 4 (.alt 6 (.alt 9 (.take 10 (.alt 11 (.done) (.last))) (.last)) (.last)) (.alt 6 (.alt 4 (.alt 9 (.take 10 (.alt 11 (.done) (.last))) (.last)) (.last)) (.last))) (.alt 6 (.alt 1 (.alt 4 (.alt 9 (.take 10 (.alt 11 (.done) (.last))) (.last)) (.last)) (.last)) (.last)))))))))] Try.func56 rfl (by kernel_rfl) _ _ _ fun x l E hp => ?_
  obtain ⟨⟨sa, n, c⟩, u⟩ := x
  have hp0 := hp
  obtain ⟨hn, hmax, hnone, _⟩ := hp
  dsimp only at hn hmax hnone hp0
  by_cases hA : allS l = true
  · by_cases hl : l.length = 0 ∨ 64 < l.length
    · (repeat' ((conv => whnf); (first | with_reducible apply And.intro | (with_reducible intro hh; first | (with_reducible have hx := NewRow.self hh; clear hx) | (with_reducible have hrow := Made.row hh; have hle := Made.le hh; have hmade := hh; clear hh) | (with_reducible have hx := Ext.self hh; clear hx) | (with_reducible have hx := SlV.self hh; clear hx) | (with_reducible have hx := Value.self hh; clear hx) | with_reducible cases hh | skip) | (with_reducible apply AllEq.mk; intro yy hq) | with_reducible apply trivial | with_reducible apply Exists.intro () | (with_reducible apply ex_side; (first | with_reducible assumption | with_reducible apply fracs1 | with_reducible apply fracs2 | with_reducible apply fracs3 | with_reducible apply spans1 | with_reducible apply spans2 | (with_reducible apply NewRow.keep; with_reducible assumption) | (with_reducible apply RowAt.keep; with_reducible assumption) | assumption | (focus ((repeat (first | with_reducible assumption | (with_reducible apply RowAt.le; rotate_left; with_reducible assumption) | (with_reducible apply RowB.le; rotate_left; with_reducible assumption))); done)))) | (with_reducible apply ex_side (a := (_, _)); (focus (with_reducible apply And.intro <;> (focus ((repeat (first | with_reducible assumption | (with_reducible apply RowAt.le; rotate_left; with_reducible assumption) | (with_reducible apply RowB.le; rotate_left; with_reducible assumption))); done))))))); (all_goals (conv => whnf)))
      (all_goals (try dsimp only [Q.eta, Sn.eta, SlV.eta] at *)); (all_goals (first | exact Side.mk trivial | with_reducible exact Side.mk rfl | exact Side.mk (fun _ _ h => h) | exact Side.mk (Made.le (by assumption)) | refine Side.mk ?_ | refine Don.mk ?_ | skip))
      all_goals first | (rw [hulR_len hA hl]; rfl) | (exfalso; rw [hA] at hh; exact absurd hh (by decide)) | (exfalso; have h9 := (by assumption : decide ((n : Int) > 64) = false); have h9 := of_decide_eq_false h9; have h8 := (by assumption : ((n : Int) == 0) = false); simp at h8; omega)
    · rcases hk0 : l[0]? with _ | s0
      · have := List.getElem?_eq_none_iff.1 hk0
        omega
      cases sa with
      | none => rw [hnone rfl] at hk0; cases hk0
      | some a =>
      obtain ⟨h0, h1, h2, h3⟩ := sn_at0 hp0 (a := a) rfl hk0
      have hok0 := okS_p (allS_at hA hk0)
      rw [hulR_ok hA hl hk0]
      (repeat' ((conv => whnf); (first | with_reducible apply And.intro | (with_reducible intro hh; first | (with_reducible have hx := NewRow.self hh; clear hx) | (with_reducible have hrow := Made.row hh; have hle := Made.le hh; have hmade := hh; clear hh) | (with_reducible have hx := Ext.self hh; clear hx) | (with_reducible have hx := SlV.self hh; clear hx) | (with_reducible have hx := Value.self hh; clear hx) | with_reducible cases hh | skip) | (with_reducible apply AllEq.mk; intro yy hq) | with_reducible apply trivial | with_reducible apply Exists.intro () | (with_reducible apply ex_side; (first | with_reducible assumption | with_reducible apply fracs1 | with_reducible apply fracs2 | with_reducible apply fracs3 | with_reducible apply spans1 | with_reducible apply spans2 | (with_reducible apply NewRow.keep; with_reducible assumption) | (with_reducible apply RowAt.keep; with_reducible assumption) | assumption | (focus ((repeat (first | with_reducible assumption | (with_reducible apply RowAt.le; rotate_left; with_reducible assumption) | (with_reducible apply RowB.le; rotate_left; with_reducible assumption))); done)))) | (with_reducible apply ex_side (a := (_, _)); (focus (with_reducible apply And.intro <;> (focus ((repeat (first | with_reducible assumption | (with_reducible apply RowAt.le; rotate_left; with_reducible assumption) | (with_reducible apply RowB.le; rotate_left; with_reducible assumption))); done))))))); (all_goals (conv => whnf)))
      (all_goals (try dsimp only [Q.eta, Sn.eta, SlV.eta] at *)); (all_goals (first | exact Side.mk trivial | with_reducible exact Side.mk rfl | exact Side.mk (fun _ _ h => h) | exact Side.mk (Made.le (by assumption)) | refine Side.mk ?_ | refine Don.mk ?_ | skip))
      all_goals first | exact ⟨by omega, by omega⟩ | (exfalso; rw [hA] at hh; exact absurd hh (by decide)) | (exfalso; have h9 := of_decide_eq_true (by assumption : decide ((n : Int) > 64) = true); omega) | (exfalso; have h9 := (by assumption : ((n : Int) == 0) = true); simp at h9; omega) | skip
      clear hh h0 h1 h2 h3
      refine ⟨fun m s => ∃ (k : Nat) (i : Int) (b : Sn) (g6 g26 g27 g28 g29 g30 g31 g32 g33 g34 g35 g36 g37 g38 g39 g40 : AV) (w0 w1 w3 w5 w7 w8 w9 w10 w11 w12 w13 w14 w15 w16 w17 w18 w19 w20 w21 w22 w41 : Value), m = l.length - k ∧ k ≤ l.length ∧ i = (k : Int) ∧ okP b ∧ hulF s0 l = hulF b (l.drop k) ∧ s = ⟨[.v w0, .v w1, .p 0 0, .v w3, .p 1 0, .v w5, g6, .v w7, .v w8, .v w9, .v w10, .v w11, .v w12, .v w13, .v w14, .v w15, .v w16, .v w17, .v w18, .v w19, .v w20, .v w21, .v w22, .v (.slice (some a) n c), .v (.int .i64 n), .v (.int .i64 i), g26, g27, g28, g29, g30, g31, g32, g33, g34, g35, g36, g37, g38, g39, g40, .v w41], [([.int .i64 0, .int .i64 0, .int .i64 0, .int .i64 0], 76), ([.int .i64 b.lo.p, .int .i64 b.lo.q, .int .i64 b.hi.p, .int .i64 b.hi.q], 76)], E⟩, ⟨_, 0, _, s0, _, _, _, _, _, _, _, _, _, _, _, _, _, _, _, _, _, _, _, _, _, _, _, _, _, _, _, _, _, _, _, _, _, _, _, _, _, rfl, Nat.zero_le _, rfl, hok0, rfl, rfl⟩, ?_⟩
      rintro m s ⟨k, i, b, g6, g26, g27, g28, g29, g30, g31, g32, g33, g34, g35, g36, g37, g38, g39, g40, w0, w1, w3, w5, w7, w8, w9, w10, w11, w12, w13, w14, w15, w16, w17, w18, w19, w20, w21, w22, w41, rfl, hk, rfl, hb, hs, rfl⟩
      rcases hkl : l[k]? with _ | q
      · have hge := List.getElem?_eq_none_iff.1 hkl
        rw [List.drop_eq_nil_of_le hge, hulF] at hs
        (repeat' ((conv => whnf); (first | with_reducible apply And.intro | (with_reducible intro hh; first | (with_reducible have hx := NewRow.self hh; clear hx) | (with_reducible have hrow := Made.row hh; have hle := Made.le hh; have hmade := hh; clear hh) | (with_reducible have hx := Ext.self hh; clear hx) | (with_reducible have hx := SlV.self hh; clear hx) | (with_reducible have hx := Value.self hh; clear hx) | with_reducible cases hh | skip) | (with_reducible apply AllEq.mk; intro yy hq) | with_reducible apply trivial | with_reducible apply Exists.intro () | (with_reducible apply ex_side; (first | with_reducible assumption | with_reducible apply fracs1 | with_reducible apply fracs2 | with_reducible apply fracs3 | with_reducible apply spans1 | with_reducible apply spans2 | (with_reducible apply NewRow.keep; with_reducible assumption) | (with_reducible apply RowAt.keep; with_reducible assumption) | assumption | (focus ((repeat (first | with_reducible assumption | (with_reducible apply RowAt.le; rotate_left; with_reducible assumption) | (with_reducible apply RowB.le; rotate_left; with_reducible assumption))); done)))) | (with_reducible apply ex_side (a := (_, _)); (focus (with_reducible apply And.intro <;> (focus ((repeat (first | with_reducible assumption | (with_reducible apply RowAt.le; rotate_left; with_reducible assumption) | (with_reducible apply RowB.le; rotate_left; with_reducible assumption))); done))))))); (all_goals (conv => whnf)))
        (all_goals (try dsimp only [Q.eta, Sn.eta, SlV.eta] at *)); (all_goals (first | exact Side.mk trivial | with_reducible exact Side.mk rfl | exact Side.mk (fun _ _ h => h) | exact Side.mk (Made.le (by assumption)) | refine Side.mk ?_ | refine Don.mk ?_ | skip))
        all_goals try (exfalso; have := of_decide_eq_true (by assumption : decide ((k : Int) < (n : Int)) = true); omega)
        rw [hs]
        rfl
      · have hlt : k < l.length := (List.getElem?_eq_some_iff.1 hkl).1
        have hq := okS_p (allS_at hA hkl)
        rw [drop_at2 hkl, hulF] at hs
        obtain ⟨h0, h1, h2, h3⟩ := SpansAt.at hp0 (a := a) rfl hkl
        (repeat' ((conv => whnf); (first | with_reducible apply And.intro | (with_reducible intro hh; first | (with_reducible have hx := NewRow.self hh; clear hx) | (with_reducible have hrow := Made.row hh; have hle := Made.le hh; have hmade := hh; clear hh) | (with_reducible have hx := Ext.self hh; clear hx) | (with_reducible have hx := SlV.self hh; clear hx) | (with_reducible have hx := Value.self hh; clear hx) | with_reducible cases hh | skip) | (with_reducible apply AllEq.mk; intro yy hq) | with_reducible apply trivial | with_reducible apply Exists.intro () | (with_reducible apply ex_side; (first | with_reducible assumption | with_reducible apply fracs1 | with_reducible apply fracs2 | with_reducible apply fracs3 | with_reducible apply spans1 | with_reducible apply spans2 | (with_reducible apply NewRow.keep; with_reducible assumption) | (with_reducible apply RowAt.keep; with_reducible assumption) | assumption | (focus ((repeat (first | with_reducible assumption | (with_reducible apply RowAt.le; rotate_left; with_reducible assumption) | (with_reducible apply RowB.le; rotate_left; with_reducible assumption))); done)))) | (with_reducible apply ex_side (a := (_, _)); (focus (with_reducible apply And.intro <;> (focus ((repeat (first | with_reducible assumption | (with_reducible apply RowAt.le; rotate_left; with_reducible assumption) | (with_reducible apply RowB.le; rotate_left; with_reducible assumption))); done))))))); (all_goals (conv => whnf)))
        (all_goals (try dsimp only [Q.eta, Sn.eta, SlV.eta] at *)); (all_goals (first | exact Side.mk trivial | with_reducible exact Side.mk rfl | exact Side.mk (fun _ _ h => h) | exact Side.mk (Made.le (by assumption)) | refine Side.mk ?_ | refine Don.mk ?_ | skip))
        all_goals first | exact ⟨by omega, by omega⟩ | exact ⟨hb.1, hq.1⟩ | exact ⟨hb.2, hq.2⟩ | (exfalso; have := of_decide_eq_false (by assumption : decide ((k : Int) < (n : Int)) = false); omega) | skip
        all_goals refine ⟨_, ?_, k + 1, _, ⟨lesQ b.lo q.lo, greQ b.hi q.hi⟩, _, _, _, _, _, _, _, _, _, _, _, _, _, _, _, _, _, _, _, _, _, _, _, _, _, _, _, _, _, _, _, _, _, _, _, _, _, rfl, hlt, wrap_succ (n := n) (by omega) hmax, okP_hul hb hq, hs, rfl⟩
        all_goals omega
  · have hA' : allS l = false := by simpa using hA
    (repeat' ((conv => whnf); (first | with_reducible apply And.intro | (with_reducible intro hh; first | (with_reducible have hx := NewRow.self hh; clear hx) | (with_reducible have hrow := Made.row hh; have hle := Made.le hh; have hmade := hh; clear hh) | (with_reducible have hx := Ext.self hh; clear hx) | (with_reducible have hx := SlV.self hh; clear hx) | (with_reducible have hx := Value.self hh; clear hx) | with_reducible cases hh | skip) | (with_reducible apply AllEq.mk; intro yy hq) | with_reducible apply trivial | with_reducible apply Exists.intro () | (with_reducible apply ex_side; (first | with_reducible assumption | with_reducible apply fracs1 | with_reducible apply fracs2 | with_reducible apply fracs3 | with_reducible apply spans1 | with_reducible apply spans2 | (with_reducible apply NewRow.keep; with_reducible assumption) | (with_reducible apply RowAt.keep; with_reducible assumption) | assumption | (focus ((repeat (first | with_reducible assumption | (with_reducible apply RowAt.le; rotate_left; with_reducible assumption) | (with_reducible apply RowB.le; rotate_left; with_reducible assumption))); done)))) | (with_reducible apply ex_side (a := (_, _)); (focus (with_reducible apply And.intro <;> (focus ((repeat (first | with_reducible assumption | (with_reducible apply RowAt.le; rotate_left; with_reducible assumption) | (with_reducible apply RowB.le; rotate_left; with_reducible assumption))); done))))))); (all_goals (conv => whnf)))
    (all_goals (try dsimp only [Q.eta, Sn.eta, SlV.eta] at *)); (all_goals (first | exact Side.mk trivial | with_reducible exact Side.mk rfl | exact Side.mk (fun _ _ h => h) | exact Side.mk (Made.le (by assumption)) | refine Side.mk ?_ | refine Don.mk ?_ | skip))
    all_goals first | (rw [hulR_no hA']; rfl) | (exfalso; rw [hA'] at hh; exact absurd hh (by decide)) | (exfalso; have h9 := (by assumption : (!allS l) = false); rw [hA'] at h9; exact absurd h9 (by decide))


set_option maxHeartbeats 4000000 in
set_option maxRecDepth 100000 in
theorem shul_ok : Sp.ok Try.prog 54 hulSp := by
  refine Sp.rf_ok (T := ⟨[(124, spanXSp), (104, withinSp), (125, lesSp), (126, greSp)], []⟩) follows eqok0 ⟨enters Try.func124 rfl rfl, spanX_ok, enters Try.func104 rfl rfl, in_ok, enters Try.func125 rfl rfl, sles_ok, enters Try.func126 rfl rfl, sgre_ok, trivial⟩ [(12, .take 0 (.take 2 (.take 3 (.take 4 (.take 5 (.take 6 (.take 8 (.take 10 (.take 11 (.take 12 (.take 13 (.take 14 (.alt 1 (.alt 7 (.alt 9 (.alt 15 (.take 16 (.alt 17 (.done) (.last))) (.last)) (.last)) (.alt 9 (.alt 7 (.alt 15 (.take 16 (.alt 17 (.done) (.last))) (.last)) (.last)) (.last))) (.alt 9 (.alt 1 (.alt 7 (.alt 15 (.take 16 (.alt 17 (.done) (.last))) (.last)) (.last)) (.last)) (.last)))))))))))))))] Try.func54 rfl (by kernel_rfl) _ _ _ fun x l E hp => ?_
  obtain ⟨⟨sa, n, c⟩, u⟩ := x
  have hp0 := hp
  obtain ⟨hn, hmax, hnone, _⟩ := hp
  dsimp only at hn hmax hnone hp0
  conv => whnf
  refine ⟨fun m s => ∃ (k : Nat) (i : Int) (g1 g3 g5 g6 g7 g8 g9 g10 g11 g12 g13 g14 g15 g16 g17 g18 g19 g20 g21 g22 g23 g24 g25 g26 g27 g28 g29 g30 g31 g32 g33 g34 g35 g36 g37 g38 g39 g40 g41 g42 g43 g44 g45 g46 g47 g48 g49 g50 : AV), m = l.length - k ∧ k ≤ l.length ∧ i = (k : Int) ∧ (∀ i q, i < k → l[i]? = some q → okS q = true) ∧ s = ⟨[.v (.slice sa n c), g1, .p 0 0, g3, .v (.int .i64 i), g5, g6, g7, g8, g9, g10, g11, g12, g13, g14, g15, g16, g17, g18, g19, g20, g21, g22, g23, g24, g25, g26, g27, g28, g29, g30, g31, g32, g33, g34, g35, g36, g37, g38, g39, g40, g41, g42, g43, g44, g45, g46, g47, g48, g49, g50], [([.int .i64 0, .int .i64 0, .int .i64 0, .int .i64 0], 76)], E⟩, ⟨_, 0, _, _, _, _, _, _, _, _, _, _, _, _, _, _, _, _, _, _, _, _, _, _, _, _, _, _, _, _, _, _, _, _, _, _, _, _, _, _, _, _, _, _, _, _, _, _, _, _, _, rfl, Nat.zero_le _, rfl, fun i q hi => absurd hi (Nat.not_lt_zero _), rfl⟩, ?_⟩
  rintro m s ⟨k, i, g1, g3, g5, g6, g7, g8, g9, g10, g11, g12, g13, g14, g15, g16, g17, g18, g19, g20, g21, g22, g23, g24, g25, g26, g27, g28, g29, g30, g31, g32, g33, g34, g35, g36, g37, g38, g39, g40, g41, g42, g43, g44, g45, g46, g47, g48, g49, g50, rfl, hk, rfl, hv, rfl⟩
  rcases hkl : l[k]? with _ | q
  · have hge := List.getElem?_eq_none_iff.1 hkl
    have hA : allS l = true := by
      unfold allS
      rw [List.all_eq_true]
      intro q hq
      obtain ⟨i, hi⟩ := List.mem_iff_getElem?.1 hq
      exact hv i q (by have := (List.getElem?_eq_some_iff.1 hi).1; omega) hi
    clear hv
    by_cases hl : l.length = 0 ∨ 64 < l.length
    · have hw : withinB (n : Int) 1 64 = false := by
        cases h : withinB (n : Int) 1 64 with
        | false => rfl
        | true => have := within_iff.1 h; omega
      (repeat' ((conv => whnf); (first | with_reducible apply And.intro | (with_reducible intro hh; first | (with_reducible have hx := NewRow.self hh; clear hx) | (with_reducible have hrow := Made.row hh; have hle := Made.le hh; have hmade := hh; clear hh) | (with_reducible have hx := Ext.self hh; clear hx) | (with_reducible have hx := SlV.self hh; clear hx) | (with_reducible have hx := Value.self hh; clear hx) | with_reducible cases hh | skip) | (with_reducible apply AllEq.mk; intro yy hq) | with_reducible apply trivial | with_reducible apply Exists.intro () | (with_reducible apply ex_side; (first | with_reducible assumption | with_reducible apply fracs1 | with_reducible apply fracs2 | with_reducible apply fracs3 | with_reducible apply spans1 | with_reducible apply spans2 | (with_reducible apply NewRow.keep; with_reducible assumption) | (with_reducible apply RowAt.keep; with_reducible assumption) | assumption | (focus ((repeat (first | with_reducible assumption | (with_reducible apply RowAt.le; rotate_left; with_reducible assumption) | (with_reducible apply RowB.le; rotate_left; with_reducible assumption))); done)))) | (with_reducible apply ex_side (a := (_, _)); (focus (with_reducible apply And.intro <;> (focus ((repeat (first | with_reducible assumption | (with_reducible apply RowAt.le; rotate_left; with_reducible assumption) | (with_reducible apply RowB.le; rotate_left; with_reducible assumption))); done))))))); (all_goals (conv => whnf)))
      (all_goals (try dsimp only [Q.eta, Sn.eta, SlV.eta] at *)); (all_goals (first | exact Side.mk trivial | with_reducible exact Side.mk rfl | exact Side.mk (fun _ _ h => h) | exact Side.mk (Made.le (by assumption)) | refine Side.mk ?_ | refine Don.mk ?_ | skip))
      all_goals first | (rw [hulR_len hA hl]; rfl) | (exfalso; rw [hw] at hh; exact absurd hh (by decide)) | (exfalso; have h9 := (by assumption : (!withinB (n : Int) 1 64) = false); rw [hw] at h9; exact absurd h9 (by decide)) | (exfalso; have := of_decide_eq_true (by assumption : decide ((k : Int) < (n : Int)) = true); omega)
    · have hw : withinB (n : Int) 1 64 = true := within_iff.2 (by omega)
      rcases hk0 : l[0]? with _ | s0
      · have := List.getElem?_eq_none_iff.1 hk0
        omega
      cases sa with
      | none => rw [hnone rfl] at hk0; cases hk0
      | some a =>
      obtain ⟨h0, h1, h2, h3⟩ := sn_at0 hp0 (a := a) rfl hk0
      have hok0 := okS_p (allS_at hA hk0)
      have hd : l = s0 :: l.drop 1 := by have := drop_at2 hk0; simpa using this
      have hH : hulF s0 l = hulF s0 (l.drop 1) := by
        conv => lhs; rw [hd]
        exact hulF_self _ _
      rw [hulR_ok hA hl hk0, hH]
      (repeat' ((conv => whnf); (first | with_reducible apply And.intro | (with_reducible intro hh; first | (with_reducible have hx := NewRow.self hh; clear hx) | (with_reducible have hrow := Made.row hh; have hle := Made.le hh; have hmade := hh; clear hh) | (with_reducible have hx := Ext.self hh; clear hx) | (with_reducible have hx := SlV.self hh; clear hx) | (with_reducible have hx := Value.self hh; clear hx) | with_reducible cases hh | skip) | (with_reducible apply AllEq.mk; intro yy hq) | with_reducible apply trivial | with_reducible apply Exists.intro () | (with_reducible apply ex_side; (first | with_reducible assumption | with_reducible apply fracs1 | with_reducible apply fracs2 | with_reducible apply fracs3 | with_reducible apply spans1 | with_reducible apply spans2 | (with_reducible apply NewRow.keep; with_reducible assumption) | (with_reducible apply RowAt.keep; with_reducible assumption) | assumption | (focus ((repeat (first | with_reducible assumption | (with_reducible apply RowAt.le; rotate_left; with_reducible assumption) | (with_reducible apply RowB.le; rotate_left; with_reducible assumption))); done)))) | (with_reducible apply ex_side (a := (_, _)); (focus (with_reducible apply And.intro <;> (focus ((repeat (first | with_reducible assumption | (with_reducible apply RowAt.le; rotate_left; with_reducible assumption) | (with_reducible apply RowB.le; rotate_left; with_reducible assumption))); done))))))); (all_goals (conv => whnf)))
      (all_goals (try dsimp only [Q.eta, Sn.eta, SlV.eta] at *)); (all_goals (first | exact Side.mk trivial | with_reducible exact Side.mk rfl | exact Side.mk (fun _ _ h => h) | exact Side.mk (Made.le (by assumption)) | refine Side.mk ?_ | refine Don.mk ?_ | skip))
      all_goals first | exact ⟨by omega, by omega⟩ | (exfalso; rw [hw] at hh; exact absurd hh (by decide)) | (exfalso; have h9 := (by assumption : (!withinB (n : Int) 1 64) = true); rw [hw] at h9; exact absurd h9 (by decide)) | (exfalso; have := of_decide_eq_true (by assumption : decide ((k : Int) < (n : Int)) = true); omega) | skip
      clear hh h0 h1 h2 h3 hH
      refine ⟨fun m s => ∃ (k : Nat) (i : Int) (b : Sn) (g1 g3 g4 g7 g8 g9 g10 g11 g12 g13 g14 g15 g16 g17 g18 g19 g20 g21 g22 g23 g24 g25 g26 g27 g28 g29 g30 g31 g32 g33 g34 g35 g36 g37 g38 g39 g40 g41 g42 g43 g44 g45 g46 g47 g48 g49 g50 : AV), m = l.length - k ∧ k ≤ l.length ∧ i = (k : Int) ∧ okP b ∧ hulF s0 (l.drop 1) = hulF b (l.drop k) ∧ s = ⟨[.v (.slice (some a) n c), g1, .p 0 0, g3, g4, .p 1 0, .v (.int .i64 i), g7, g8, g9, g10, g11, g12, g13, g14, g15, g16, g17, g18, g19, g20, g21, g22, g23, g24, g25, g26, g27, g28, g29, g30, g31, g32, g33, g34, g35, g36, g37, g38, g39, g40, g41, g42, g43, g44, g45, g46, g47, g48, g49, g50], [([.int .i64 0, .int .i64 0, .int .i64 0, .int .i64 0], 76), ([.int .i64 b.lo.p, .int .i64 b.lo.q, .int .i64 b.hi.p, .int .i64 b.hi.q], 76)], E⟩, ⟨_, 1, _, s0, _, _, _, _, _, _, _, _, _, _, _, _, _, _, _, _, _, _, _, _, _, _, _, _, _, _, _, _, _, _, _, _, _, _, _, _, _, _, _, _, _, _, _, _, _, _, _, rfl, by omega, rfl, hok0, rfl, rfl⟩, ?_⟩
      rintro m s ⟨k, i, b, g1, g3, g4, g7, g8, g9, g10, g11, g12, g13, g14, g15, g16, g17, g18, g19, g20, g21, g22, g23, g24, g25, g26, g27, g28, g29, g30, g31, g32, g33, g34, g35, g36, g37, g38, g39, g40, g41, g42, g43, g44, g45, g46, g47, g48, g49, g50, rfl, hk, rfl, hb, hs, rfl⟩
      rcases hkl : l[k]? with _ | q
      · have hge := List.getElem?_eq_none_iff.1 hkl
        rw [List.drop_eq_nil_of_le hge, hulF] at hs
        (repeat' ((conv => whnf); (first | with_reducible apply And.intro | (with_reducible intro hh; first | (with_reducible have hx := NewRow.self hh; clear hx) | (with_reducible have hrow := Made.row hh; have hle := Made.le hh; have hmade := hh; clear hh) | (with_reducible have hx := Ext.self hh; clear hx) | (with_reducible have hx := SlV.self hh; clear hx) | (with_reducible have hx := Value.self hh; clear hx) | with_reducible cases hh | skip) | (with_reducible apply AllEq.mk; intro yy hq) | with_reducible apply trivial | with_reducible apply Exists.intro () | (with_reducible apply ex_side; (first | with_reducible assumption | with_reducible apply fracs1 | with_reducible apply fracs2 | with_reducible apply fracs3 | with_reducible apply spans1 | with_reducible apply spans2 | (with_reducible apply NewRow.keep; with_reducible assumption) | (with_reducible apply RowAt.keep; with_reducible assumption) | assumption | (focus ((repeat (first | with_reducible assumption | (with_reducible apply RowAt.le; rotate_left; with_reducible assumption) | (with_reducible apply RowB.le; rotate_left; with_reducible assumption))); done)))) | (with_reducible apply ex_side (a := (_, _)); (focus (with_reducible apply And.intro <;> (focus ((repeat (first | with_reducible assumption | (with_reducible apply RowAt.le; rotate_left; with_reducible assumption) | (with_reducible apply RowB.le; rotate_left; with_reducible assumption))); done))))))); (all_goals (conv => whnf)))
        (all_goals (try dsimp only [Q.eta, Sn.eta, SlV.eta] at *)); (all_goals (first | exact Side.mk trivial | with_reducible exact Side.mk rfl | exact Side.mk (fun _ _ h => h) | exact Side.mk (Made.le (by assumption)) | refine Side.mk ?_ | refine Don.mk ?_ | skip))
        all_goals try (exfalso; have := of_decide_eq_true (by assumption : decide ((k : Int) < (n : Int)) = true); omega)
        rw [hs]
        rfl
      · have hlt : k < l.length := (List.getElem?_eq_some_iff.1 hkl).1
        have hq := okS_p (allS_at hA hkl)
        rw [drop_at2 hkl, hulF] at hs
        have hP : PtrAt Sn.cells (a.add ((k : Int).toNat * 4)) q E := fun j v hj => RowAt.at hp0 rfl hkl j hj
        have g0 : E (((a.add ((k : Int).toNat * 4)).add 0).add 0) = some (.int .i64 q.lo.p) := by rw [Go.Deep.add_add (a.add _) 0 0]; exact hP 0 _ rfl
        have g1 : E (((a.add ((k : Int).toNat * 4)).add 0).add (0 + 1)) = some (.int .i64 q.lo.q) := by rw [Go.Deep.add_add (a.add _) 0 1]; exact hP 1 _ rfl
        have g2 : E (((a.add ((k : Int).toNat * 4)).add 2).add 0) = some (.int .i64 q.hi.p) := by rw [Go.Deep.add_add (a.add _) 2 0]; exact hP 2 _ rfl
        have g3 : E (((a.add ((k : Int).toNat * 4)).add 2).add (0 + 1)) = some (.int .i64 q.hi.q) := by rw [Go.Deep.add_add (a.add _) 2 1]; exact hP 3 _ rfl
        (repeat' ((conv => whnf); (first | with_reducible apply And.intro | (with_reducible intro hh; first | (with_reducible have hx := NewRow.self hh; clear hx) | (with_reducible have hrow := Made.row hh; have hle := Made.le hh; have hmade := hh; clear hh) | (with_reducible have hx := Ext.self hh; clear hx) | (with_reducible have hx := SlV.self hh; clear hx) | (with_reducible have hx := Value.self hh; clear hx) | with_reducible cases hh | skip) | (with_reducible apply AllEq.mk; intro yy hq) | with_reducible apply trivial | with_reducible apply Exists.intro () | (with_reducible apply ex_side; (first | with_reducible assumption | with_reducible apply fracs1 | with_reducible apply fracs2 | with_reducible apply fracs3 | with_reducible apply spans1 | with_reducible apply spans2 | (with_reducible apply NewRow.keep; with_reducible assumption) | (with_reducible apply RowAt.keep; with_reducible assumption) | assumption | (focus ((repeat (first | with_reducible assumption | (with_reducible apply RowAt.le; rotate_left; with_reducible assumption) | (with_reducible apply RowB.le; rotate_left; with_reducible assumption))); done)))) | (with_reducible apply ex_side (a := (_, _)); (focus (with_reducible apply And.intro <;> (focus ((repeat (first | with_reducible assumption | (with_reducible apply RowAt.le; rotate_left; with_reducible assumption) | (with_reducible apply RowB.le; rotate_left; with_reducible assumption))); done))))))); (all_goals (conv => whnf)))
        (all_goals (try dsimp only [Q.eta, Sn.eta, SlV.eta] at *)); (all_goals (first | exact Side.mk trivial | with_reducible exact Side.mk rfl | exact Side.mk (fun _ _ h => h) | exact Side.mk (Made.le (by assumption)) | refine Side.mk ?_ | refine Don.mk ?_ | skip))
        all_goals first | exact ⟨by omega, by omega⟩ | exact ⟨hb.1, hq.1⟩ | exact ⟨hb.2, hq.2⟩ | (exfalso; have := of_decide_eq_false (by assumption : decide ((k : Int) < (n : Int)) = false); omega) | skip
        all_goals refine ⟨_, ?_, k + 1, _, ⟨lesQ b.lo q.lo, greQ b.hi q.hi⟩, _, _, _, _, _, _, _, _, _, _, _, _, _, _, _, _, _, _, _, _, _, _, _, _, _, _, _, _, _, _, _, _, _, _, _, _, _, _, _, _, _, _, _, _, _, _, _, rfl, hlt, wrap_succ (n := n) (by omega) hmax, okP_hul hb hq, hs, rfl⟩
        all_goals omega
  · have hlt : k < l.length := (List.getElem?_eq_some_iff.1 hkl).1
    cases sa with
    | none => rw [hnone rfl] at hkl; cases hkl
    | some a =>
      have hP : PtrAt Sn.cells (a.add ((k : Int).toNat * 4)) q E := fun j v hj => RowAt.at hp0 rfl hkl j hj
      (repeat' ((conv => whnf); (first | with_reducible apply And.intro | (with_reducible intro hh; first | (with_reducible have hx := NewRow.self hh; clear hx) | (with_reducible have hrow := Made.row hh; have hle := Made.le hh; have hmade := hh; clear hh) | (with_reducible have hx := Ext.self hh; clear hx) | (with_reducible have hx := SlV.self hh; clear hx) | (with_reducible have hx := Value.self hh; clear hx) | with_reducible cases hh | skip) | (with_reducible apply AllEq.mk; intro yy hq) | with_reducible apply trivial | with_reducible apply Exists.intro () | (with_reducible apply ex_side; (first | with_reducible assumption | with_reducible apply fracs1 | with_reducible apply fracs2 | with_reducible apply fracs3 | with_reducible apply spans1 | with_reducible apply spans2 | (with_reducible apply NewRow.keep; with_reducible assumption) | (with_reducible apply RowAt.keep; with_reducible assumption) | assumption | (focus ((repeat (first | with_reducible assumption | (with_reducible apply RowAt.le; rotate_left; with_reducible assumption) | (with_reducible apply RowB.le; rotate_left; with_reducible assumption))); done)))) | (with_reducible apply ex_side (a := (_, _)); (focus (with_reducible apply And.intro <;> (focus ((repeat (first | with_reducible assumption | (with_reducible apply RowAt.le; rotate_left; with_reducible assumption) | (with_reducible apply RowB.le; rotate_left; with_reducible assumption))); done))))))); (all_goals (conv => whnf)))
      (all_goals (try dsimp only [Q.eta, Sn.eta, SlV.eta] at *)); (all_goals (first | exact Side.mk trivial | with_reducible exact Side.mk rfl | exact Side.mk (fun _ _ h => h) | exact Side.mk (Made.le (by assumption)) | refine Side.mk ?_ | refine Don.mk ?_ | skip))
      all_goals first | exact ⟨by omega, by omega⟩ | (exfalso; have := of_decide_eq_false (by assumption : decide ((k : Int) < (n : Int)) = false); omega) | skip
      · have hA : allS l = false := by
          cases h : allS l with
          | false => rfl
          | true => have := allS_at h hkl; rw [this] at hh; exact absurd hh (by decide)
        rw [hulR_no hA]
        rfl
      · have hok : okS q = true := not_f hh
        refine ⟨_, ?_, k + 1, _, _, _, _, _, _, _, _, _, _, _, _, _, _, _, _, _, _, _, _, _, _, _, _, _, _, _, _, _, _, _, _, _, _, _, _, _, _, _, _, _, _, _, _, _, _, _, _, _, rfl, hlt, wrap_succ (n := n) (by omega) hmax, fun i q' hi hq' => ?_, rfl⟩
        · omega
        · by_cases hik : i = k
          · subst hik
            rw [hkl] at hq'
            cases hq'
            exact hok
          · exact hv i q' (by omega) hq'

end Go.Proofs.Ytlfhjmnaommckaa
