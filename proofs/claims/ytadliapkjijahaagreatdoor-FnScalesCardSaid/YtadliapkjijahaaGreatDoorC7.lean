/- Contracts of both packages' functions on two spans and on lists of spans, for all arguments within the bounds that each names; no other condition. -/
import Derived.Test.YtadliapkjijahaaGreatDoorAb
import Derived.Test.YtadliapkjijahaaGreatDoorC1
import Derived.Test.YtadliapkjijahaaGreatDoorC2
import Derived.Test.YtadliapkjijahaaGreatDoorC3
import Derived.Test.YtadliapkjijahaaGreatDoorC4
import Derived.Test.YtadliapkjijahaaGreatDoorC5
import Derived.Test.YtadliapkjijahaaGreatDoorCL
import Derived.Test.YtadliapkjijahaaGreatDoorC6
import Derived.Test.YtadliapkjijahaaGreatDoorProg
set_option linter.unusedVariables false
set_option linter.unusedSimpArgs false
namespace Go.Proofs.YtadliapkjijahaaGreatDoor
open Ab

def allS (l : List Sn) : Bool := l.all okS
abbrev gbadSp : Sp := .pf S1 (fun _ => True) (fun x => .bool (!okS x.1))
set_option maxRecDepth 100000 in
theorem gbad_ok : Sp.ok Tryz.prog 97 gbadSp := by
  refine Sp.pf_ok (T := ⟨[(15, spanVSp)], []⟩) follows eqok0 ⟨enters Tryz.func15 rfl rfl, spanV_ok, trivial⟩ [] Tryz.func97 rfl (by kernel_rfl) _ _ _ fun x E hp => ?_
  obtain ⟨⟨⟨a, b⟩, ⟨c, d⟩⟩, u⟩ := x
  (repeat' ((conv => whnf); (first | with_reducible apply And.intro | (with_reducible intro hh; first | (with_reducible have hx := NewRow.self hh; clear hx) | (with_reducible have hrow := Made.row hh; have hle := Made.le hh; have hmade := hh; clear hh) | (with_reducible have hrow := Fresh.rowS hh; have hle := Fresh.leS hh; have hfr := hh; clear hh) | (with_reducible have hx := Ext.self hh; clear hx) | (with_reducible have hx := SlV.self hh; clear hx) | (with_reducible have hx := Value.self hh; clear hx) | with_reducible cases hh | skip) | (with_reducible apply AllEq.mk; intro yy hq) | with_reducible apply trivial | with_reducible apply Exists.intro () | (with_reducible apply ex_side; (first | with_reducible assumption | with_reducible apply fracs1 | with_reducible apply fracs2 | with_reducible apply fracs3 | with_reducible apply spans1 | with_reducible apply spans2 | (with_reducible apply NewRow.keep; with_reducible assumption) | (with_reducible apply RowAt.keep; with_reducible assumption) | assumption | (focus ((repeat (first | with_reducible assumption | (with_reducible apply RowAt.le; rotate_left; with_reducible assumption) | (with_reducible apply RowB.le; rotate_left; with_reducible assumption))); done)))) | (with_reducible apply ex_side (a := (_, _)); (focus (with_reducible apply And.intro <;> (focus ((repeat (first | with_reducible assumption | (with_reducible apply RowAt.le; rotate_left; with_reducible assumption) | (with_reducible apply RowB.le; rotate_left; with_reducible assumption))); done))))))); (all_goals (conv => whnf)))
  (all_goals (try dsimp only [Q.eta, Sn.eta, SlV.eta] at *)); (all_goals (first | exact Side.mk trivial | with_reducible exact Side.mk rfl | exact Side.mk (fun _ _ h => h) | exact Side.mk (Made.le (by assumption)) | refine Side.mk ?_ | refine Don.mk ?_ | skip))
  rfl
abbrev gAF : ArgL (SlV × Unit × Unit) := .cons .slice (.cons (.fnc 97) .nil)
abbrev gidxSp : Sp := .rf gAF (fun x l E => SpansAt x.1 l E) (fun x l => .int .i64 (firstN (fun a => !okS a) l))
set_option maxRecDepth 100000 in
theorem gidx_ok : Sp.ok Tryz.prog 119 gidxSp := by
  refine Sp.rf_ok (T := ⟨[(97, gbadSp)], []⟩) follows eqok0 ⟨enters Tryz.func97 rfl rfl, gbad_ok, trivial⟩ [] Tryz.func119 rfl (by kernel_rfl) _ _ _ fun x l E hp => ?_
  obtain ⟨⟨sa, n, c⟩, u, u'⟩ := x
  have hq := @SpansAt.at _ _ _ hp
  obtain ⟨hn, hmax, hnone, hat⟩ := hp
  dsimp only at hn hmax hnone hat
  conv => whnf
  refine ⟨fun m s => ∃ (k : Nat) (g5 g9 g10 g11 g12 g13 g14 g15 g16 g17 g18 : AV), m = l.length - k ∧ k ≤ l.length ∧ (∀ i q, i < k → l[i]? = some q → (fun a => !okS a) q = false) ∧
    s = ⟨[.v (.slice sa n c), .v (.func (.func 97) #[] #[]), .v (.tuple #[]), .v (.tuple #[]), .v (.int .i64 0), g5, .v (.slice sa n c), .v (.int .i64 n), .v (.int .i64 k), g9, g10, g11, g12, g13, g14, g15, g16, g17, g18], [], E⟩,
    ⟨_, 0, _, _, _, _, _, _, _, _, _, _, _, rfl, Nat.zero_le _, fun i q hi => absurd hi (Nat.not_lt_zero _), rfl⟩, ?_⟩
  rintro m s ⟨k, g5, g9, g10, g11, g12, g13, g14, g15, g16, g17, g18, rfl, hk, hv, rfl⟩
  have hb : ∀ i q, l[i]? = some q → i < l.length := fun i q h => (List.getElem?_eq_some_iff.1 h).1
  cases sa with
  | none =>
    obtain rfl := hnone rfl
    (repeat' ((conv => whnf); (first | with_reducible apply And.intro | (with_reducible intro hh; first | (with_reducible have hx := NewRow.self hh; clear hx) | (with_reducible have hrow := Made.row hh; have hle := Made.le hh; have hmade := hh; clear hh) | (with_reducible have hrow := Fresh.rowS hh; have hle := Fresh.leS hh; have hfr := hh; clear hh) | (with_reducible have hx := Ext.self hh; clear hx) | (with_reducible have hx := SlV.self hh; clear hx) | (with_reducible have hx := Value.self hh; clear hx) | with_reducible cases hh | skip) | (with_reducible apply AllEq.mk; intro yy hq) | with_reducible apply trivial | with_reducible apply Exists.intro () | (with_reducible apply ex_side; (first | with_reducible assumption | with_reducible apply fracs1 | with_reducible apply fracs2 | with_reducible apply fracs3 | with_reducible apply spans1 | with_reducible apply spans2 | (with_reducible apply NewRow.keep; with_reducible assumption) | (with_reducible apply RowAt.keep; with_reducible assumption) | assumption | (focus ((repeat (first | with_reducible assumption | (with_reducible apply RowAt.le; rotate_left; with_reducible assumption) | (with_reducible apply RowB.le; rotate_left; with_reducible assumption))); done)))) | (with_reducible apply ex_side (a := (_, _)); (focus (with_reducible apply And.intro <;> (focus ((repeat (first | with_reducible assumption | (with_reducible apply RowAt.le; rotate_left; with_reducible assumption) | (with_reducible apply RowB.le; rotate_left; with_reducible assumption))); done))))))); (all_goals (conv => whnf)))
    (all_goals (try dsimp only [Q.eta, Sn.eta, SlV.eta] at *)); (all_goals (first | exact Side.mk trivial | with_reducible exact Side.mk rfl | exact Side.mk (fun _ _ h => h) | exact Side.mk (Made.le (by assumption)) | refine Side.mk ?_ | refine Don.mk ?_ | skip))
    · have := of_decide_eq_true hh
      simp only [List.length_nil] at hn
      omega
    · rfl
  | some a =>
    rcases hkl : l[k]? with _ | q
    · have hge : l.length ≤ k := List.getElem?_eq_none_iff.1 hkl
      (repeat' ((conv => whnf); (first | with_reducible apply And.intro | (with_reducible intro hh; first | (with_reducible have hx := NewRow.self hh; clear hx) | (with_reducible have hrow := Made.row hh; have hle := Made.le hh; have hmade := hh; clear hh) | (with_reducible have hrow := Fresh.rowS hh; have hle := Fresh.leS hh; have hfr := hh; clear hh) | (with_reducible have hx := Ext.self hh; clear hx) | (with_reducible have hx := SlV.self hh; clear hx) | (with_reducible have hx := Value.self hh; clear hx) | with_reducible cases hh | skip) | (with_reducible apply AllEq.mk; intro yy hq) | with_reducible apply trivial | with_reducible apply Exists.intro () | (with_reducible apply ex_side; (first | with_reducible assumption | with_reducible apply fracs1 | with_reducible apply fracs2 | with_reducible apply fracs3 | with_reducible apply spans1 | with_reducible apply spans2 | (with_reducible apply NewRow.keep; with_reducible assumption) | (with_reducible apply RowAt.keep; with_reducible assumption) | assumption | (focus ((repeat (first | with_reducible assumption | (with_reducible apply RowAt.le; rotate_left; with_reducible assumption) | (with_reducible apply RowB.le; rotate_left; with_reducible assumption))); done)))) | (with_reducible apply ex_side (a := (_, _)); (focus (with_reducible apply And.intro <;> (focus ((repeat (first | with_reducible assumption | (with_reducible apply RowAt.le; rotate_left; with_reducible assumption) | (with_reducible apply RowB.le; rotate_left; with_reducible assumption))); done))))))); (all_goals (conv => whnf)))
      (all_goals (try dsimp only [Q.eta, Sn.eta, SlV.eta] at *)); (all_goals (first | exact Side.mk trivial | with_reducible exact Side.mk rfl | exact Side.mk (fun _ _ h => h) | exact Side.mk (Made.le (by assumption)) | refine Side.mk ?_ | refine Don.mk ?_ | skip))
      all_goals try (have := of_decide_eq_true hh; omega)
      rw [firstN_all fun i q hi => hv i q (by omega)]
    · obtain ⟨h0, h1, h2, h3⟩ := hq rfl hkl
      have hlt := hb _ _ hkl
      (repeat' ((conv => whnf); (first | with_reducible apply And.intro | (with_reducible intro hh; first | (with_reducible have hx := NewRow.self hh; clear hx) | (with_reducible have hrow := Made.row hh; have hle := Made.le hh; have hmade := hh; clear hh) | (with_reducible have hrow := Fresh.rowS hh; have hle := Fresh.leS hh; have hfr := hh; clear hh) | (with_reducible have hx := Ext.self hh; clear hx) | (with_reducible have hx := SlV.self hh; clear hx) | (with_reducible have hx := Value.self hh; clear hx) | with_reducible cases hh | skip) | (with_reducible apply AllEq.mk; intro yy hq) | with_reducible apply trivial | with_reducible apply Exists.intro () | (with_reducible apply ex_side; (first | with_reducible assumption | with_reducible apply fracs1 | with_reducible apply fracs2 | with_reducible apply fracs3 | with_reducible apply spans1 | with_reducible apply spans2 | (with_reducible apply NewRow.keep; with_reducible assumption) | (with_reducible apply RowAt.keep; with_reducible assumption) | assumption | (focus ((repeat (first | with_reducible assumption | (with_reducible apply RowAt.le; rotate_left; with_reducible assumption) | (with_reducible apply RowB.le; rotate_left; with_reducible assumption))); done)))) | (with_reducible apply ex_side (a := (_, _)); (focus (with_reducible apply And.intro <;> (focus ((repeat (first | with_reducible assumption | (with_reducible apply RowAt.le; rotate_left; with_reducible assumption) | (with_reducible apply RowB.le; rotate_left; with_reducible assumption))); done))))))); (all_goals (conv => whnf)))
      (all_goals (try dsimp only [Q.eta, Sn.eta, SlV.eta] at *)); (all_goals (first | exact Side.mk trivial | with_reducible exact Side.mk rfl | exact Side.mk (fun _ _ h => h) | exact Side.mk (Made.le (by assumption)) | refine Side.mk ?_ | refine Don.mk ?_ | skip))
      · omega
      · rw [firstN_at hv hkl hh]
      · have hok : (fun a => !okS a) q = false := hh
        refine ⟨_, ?_, k + 1, _, _, _, _, _, _, _, _, _, _, _, rfl, hlt, fun i q' hi hq' => ?_, by rw [wrap_succ (n := n) (by omega) hmax]⟩
        · omega
        · by_cases hik : i = k
          · subst hik
            rw [hkl] at hq'
            cases hq'
            exact hok
          · exact hv i q' (by omega) hq'
      · have := of_decide_eq_false hh
        omega
abbrev ghasSp : Sp := .rf gAF (fun x l E => SpansAt x.1 l E) (fun x l => .bool (l.any (fun a => !okS a)))
set_option maxRecDepth 100000 in
theorem ghas_ok : Sp.ok Tryz.prog 96 ghasSp := by
  refine Sp.rf_ok (T := ⟨[(119, gidxSp)], []⟩) follows eqok0 ⟨enters Tryz.func119 rfl rfl, gidx_ok, trivial⟩ [] Tryz.func96 rfl (by kernel_rfl) _ _ _ fun x l E hp => ?_
  obtain ⟨⟨sa, n, c⟩, u, u'⟩ := x
  (repeat' ((conv => whnf); (first | with_reducible apply And.intro | (with_reducible intro hh; first | (with_reducible have hx := NewRow.self hh; clear hx) | (with_reducible have hrow := Made.row hh; have hle := Made.le hh; have hmade := hh; clear hh) | (with_reducible have hrow := Fresh.rowS hh; have hle := Fresh.leS hh; have hfr := hh; clear hh) | (with_reducible have hx := Ext.self hh; clear hx) | (with_reducible have hx := SlV.self hh; clear hx) | (with_reducible have hx := Value.self hh; clear hx) | with_reducible cases hh | skip) | (with_reducible apply AllEq.mk; intro yy hq) | with_reducible apply trivial | with_reducible apply Exists.intro () | (with_reducible apply ex_side; (first | with_reducible assumption | with_reducible apply fracs1 | with_reducible apply fracs2 | with_reducible apply fracs3 | with_reducible apply spans1 | with_reducible apply spans2 | (with_reducible apply NewRow.keep; with_reducible assumption) | (with_reducible apply RowAt.keep; with_reducible assumption) | assumption | (focus ((repeat (first | with_reducible assumption | (with_reducible apply RowAt.le; rotate_left; with_reducible assumption) | (with_reducible apply RowB.le; rotate_left; with_reducible assumption))); done)))) | (with_reducible apply ex_side (a := (_, _)); (focus (with_reducible apply And.intro <;> (focus ((repeat (first | with_reducible assumption | (with_reducible apply RowAt.le; rotate_left; with_reducible assumption) | (with_reducible apply RowB.le; rotate_left; with_reducible assumption))); done))))))); (all_goals (conv => whnf)))
  (all_goals (try dsimp only [Q.eta, Sn.eta, SlV.eta] at *)); (all_goals (first | exact Side.mk trivial | with_reducible exact Side.mk rfl | exact Side.mk (fun _ _ h => h) | exact Side.mk (Made.le (by assumption)) | refine Side.mk ?_ | refine Don.mk ?_ | skip))
  exact congrArg (fun b => AV.v (.bool b)) firstN_lt

abbrev spsSp : Sp := .rf FS (fun x l E => SpansAt x.1 l E) (fun x l => .bool (allS l))
set_option maxRecDepth 100000 in
theorem sps_ok : Sp.ok Tryz.prog 48 spsSp := by
  refine Sp.rf_ok (T := ⟨[(96, ghasSp)], []⟩) follows eqok0 ⟨enters Tryz.func96 rfl rfl, ghas_ok, trivial⟩ [] Tryz.func48 rfl (by kernel_rfl) _ _ _ fun x l E hp => ?_
  obtain ⟨⟨sa, n, c⟩, u⟩ := x
  (repeat' ((conv => whnf); (first | with_reducible apply And.intro | (with_reducible intro hh; first | (with_reducible have hx := NewRow.self hh; clear hx) | (with_reducible have hrow := Made.row hh; have hle := Made.le hh; have hmade := hh; clear hh) | (with_reducible have hrow := Fresh.rowS hh; have hle := Fresh.leS hh; have hfr := hh; clear hh) | (with_reducible have hx := Ext.self hh; clear hx) | (with_reducible have hx := SlV.self hh; clear hx) | (with_reducible have hx := Value.self hh; clear hx) | with_reducible cases hh | skip) | (with_reducible apply AllEq.mk; intro yy hq) | with_reducible apply trivial | with_reducible apply Exists.intro () | (with_reducible apply ex_side; (first | with_reducible assumption | with_reducible apply fracs1 | with_reducible apply fracs2 | with_reducible apply fracs3 | with_reducible apply spans1 | with_reducible apply spans2 | (with_reducible apply NewRow.keep; with_reducible assumption) | (with_reducible apply RowAt.keep; with_reducible assumption) | assumption | (focus ((repeat (first | with_reducible assumption | (with_reducible apply RowAt.le; rotate_left; with_reducible assumption) | (with_reducible apply RowB.le; rotate_left; with_reducible assumption))); done)))) | (with_reducible apply ex_side (a := (_, _)); (focus (with_reducible apply And.intro <;> (focus ((repeat (first | with_reducible assumption | (with_reducible apply RowAt.le; rotate_left; with_reducible assumption) | (with_reducible apply RowB.le; rotate_left; with_reducible assumption))); done))))))); (all_goals (conv => whnf)))
  (all_goals (try dsimp only [Q.eta, Sn.eta, SlV.eta] at *)); (all_goals (first | exact Side.mk trivial | with_reducible exact Side.mk rfl | exact Side.mk (fun _ _ h => h) | exact Side.mk (Made.le (by assumption)) | refine Side.mk ?_ | refine Don.mk ?_ | skip))
  rw [any_not]
  rfl
theorem allS2 (a b : Sn) : allS [a, b] = (okS a && okS b) := by simp [allS]
theorem rss_span {ok : Bool} {m n : Int × Int} {v : Value} (h : (!ok) = false) (hv : v = RS ((if (false || !okR m.1 m.2) || !okR n.1 n.2 then (⟨⟨0, 0⟩, ⟨0, 0⟩⟩ : Sn) else ⟨tolQ m.1 m.2, tolQ n.1 n.2⟩), (if (false || !okR m.1 m.2) || !okR n.1 n.2 then (3 : Int) else 0))) : AV.v v = AV.v (RSS ok (bothO m n)) := resS_ok h (by rw [hv, span_two])
theorem rss_span' {ok : Bool} {m n : Int × Int} {v : Value} (h : (!ok) = false) (hv : v = RS ((if (false || !okR n.1 n.2) || !okR m.1 m.2 then (⟨⟨0, 0⟩, ⟨0, 0⟩⟩ : Sn) else ⟨tolQ m.1 m.2, tolQ n.1 n.2⟩), (if (false || !okR n.1 n.2) || !okR m.1 m.2 then (3 : Int) else 0))) : AV.v v = AV.v (RSS ok (bothO m n)) := resS_ok h (by rw [hv, span_two'])
set_option maxRecDepth 100000 in
theorem addS_ok : Sp.ok Tryz.prog 10 addSSp := by
  refine Sp.pf_ok (T := ⟨[(48, spsSp), (50, addSp), (49, spanSp)], []⟩) follows eqok0 ⟨enters Tryz.func48 rfl rfl, sps_ok, enters Tryz.func50 rfl rfl, add_ok, enters Tryz.func49 rfl rfl, span_ok, trivial⟩ [(4, .take 0 (.take 1 (.take 2 (.take 3 (.take 4 (.take 5 (.take 7 (.take 8 (.take 9 (.take 10 (.take 11 (.alt 6 (.alt 12 (.take 13 (.alt 14 (.take 15 (.take 16 (.alt 17 (.take 18 (.done)) (.last)))) (.last))) (.last)) (.last)))))))))))))] Tryz.func10 rfl (by kernel_rfl) _ _ _ fun x E hp => ?_
  obtain ⟨⟨⟨a, b⟩, ⟨c, d⟩⟩, ⟨⟨a', b'⟩, ⟨c', d'⟩⟩, u⟩ := x
  (repeat' ((conv => whnf); (first | with_reducible apply And.intro | (with_reducible intro hh; first | (with_reducible have hx := NewRow.self hh; clear hx) | (with_reducible have hrow := Made.row hh; have hle := Made.le hh; have hmade := hh; clear hh) | (with_reducible have hrow := Fresh.rowS hh; have hle := Fresh.leS hh; have hfr := hh; clear hh) | (with_reducible have hx := Ext.self hh; clear hx) | (with_reducible have hx := SlV.self hh; clear hx) | (with_reducible have hx := Value.self hh; clear hx) | with_reducible cases hh | skip) | (with_reducible apply AllEq.mk; intro yy hq) | with_reducible apply trivial | with_reducible apply Exists.intro () | (with_reducible apply ex_side; (first | with_reducible assumption | with_reducible apply fracs1 | with_reducible apply fracs2 | with_reducible apply fracs3 | with_reducible apply spans1 | with_reducible apply spans2 | (with_reducible apply NewRow.keep; with_reducible assumption) | (with_reducible apply RowAt.keep; with_reducible assumption) | assumption | (focus ((repeat (first | with_reducible assumption | (with_reducible apply RowAt.le; rotate_left; with_reducible assumption) | (with_reducible apply RowB.le; rotate_left; with_reducible assumption))); done)))) | (with_reducible apply ex_side (a := (_, _)); (focus (with_reducible apply And.intro <;> (focus ((repeat (first | with_reducible assumption | (with_reducible apply RowAt.le; rotate_left; with_reducible assumption) | (with_reducible apply RowB.le; rotate_left; with_reducible assumption))); done))))))); (all_goals (conv => whnf)))
  (all_goals (try dsimp only [Q.eta, Sn.eta, SlV.eta] at *)); (all_goals (first | exact Side.mk trivial | with_reducible exact Side.mk rfl | exact Side.mk (fun _ _ h => h) | exact Side.mk (Made.le (by assumption)) | refine Side.mk ?_ | refine Don.mk ?_ | skip))
  all_goals simp only [allS2] at *
  · exact resS_bad hh
  all_goals have h2 : okS ⟨⟨a, b⟩, ⟨c, d⟩⟩ = true ∧ okS ⟨⟨a', b'⟩, ⟨c', d'⟩⟩ = true := by simpa using hh
  all_goals have h3 := okS_p h2.1
  all_goals have h4 := okS_p h2.2
  all_goals first | exact ⟨h3.1, h4.1⟩ | exact ⟨h3.2, h4.2⟩ | exact ⟨h3.1, h4.2⟩ | exact ⟨h3.2, h4.1⟩ | exact rss_span hh rfl | exact rss_span' hh rfl
set_option maxRecDepth 100000 in
theorem subS_ok : Sp.ok Tryz.prog 11 subSSp := by
  refine Sp.pf_ok (T := ⟨[(48, spsSp), (51, subSp), (49, spanSp)], []⟩) follows eqok0 ⟨enters Tryz.func48 rfl rfl, sps_ok, enters Tryz.func51 rfl rfl, sub_ok, enters Tryz.func49 rfl rfl, span_ok, trivial⟩ [(4, .take 0 (.take 1 (.take 2 (.take 3 (.take 4 (.take 5 (.take 7 (.take 8 (.take 9 (.take 10 (.take 11 (.alt 6 (.alt 12 (.take 13 (.alt 14 (.take 15 (.take 16 (.alt 17 (.take 18 (.done)) (.last)))) (.last))) (.last)) (.last)))))))))))))] Tryz.func11 rfl (by kernel_rfl) _ _ _ fun x E hp => ?_
  obtain ⟨⟨⟨a, b⟩, ⟨c, d⟩⟩, ⟨⟨a', b'⟩, ⟨c', d'⟩⟩, u⟩ := x
  (repeat' ((conv => whnf); (first | with_reducible apply And.intro | (with_reducible intro hh; first | (with_reducible have hx := NewRow.self hh; clear hx) | (with_reducible have hrow := Made.row hh; have hle := Made.le hh; have hmade := hh; clear hh) | (with_reducible have hrow := Fresh.rowS hh; have hle := Fresh.leS hh; have hfr := hh; clear hh) | (with_reducible have hx := Ext.self hh; clear hx) | (with_reducible have hx := SlV.self hh; clear hx) | (with_reducible have hx := Value.self hh; clear hx) | with_reducible cases hh | skip) | (with_reducible apply AllEq.mk; intro yy hq) | with_reducible apply trivial | with_reducible apply Exists.intro () | (with_reducible apply ex_side; (first | with_reducible assumption | with_reducible apply fracs1 | with_reducible apply fracs2 | with_reducible apply fracs3 | with_reducible apply spans1 | with_reducible apply spans2 | (with_reducible apply NewRow.keep; with_reducible assumption) | (with_reducible apply RowAt.keep; with_reducible assumption) | assumption | (focus ((repeat (first | with_reducible assumption | (with_reducible apply RowAt.le; rotate_left; with_reducible assumption) | (with_reducible apply RowB.le; rotate_left; with_reducible assumption))); done)))) | (with_reducible apply ex_side (a := (_, _)); (focus (with_reducible apply And.intro <;> (focus ((repeat (first | with_reducible assumption | (with_reducible apply RowAt.le; rotate_left; with_reducible assumption) | (with_reducible apply RowB.le; rotate_left; with_reducible assumption))); done))))))); (all_goals (conv => whnf)))
  (all_goals (try dsimp only [Q.eta, Sn.eta, SlV.eta] at *)); (all_goals (first | exact Side.mk trivial | with_reducible exact Side.mk rfl | exact Side.mk (fun _ _ h => h) | exact Side.mk (Made.le (by assumption)) | refine Side.mk ?_ | refine Don.mk ?_ | skip))
  all_goals simp only [allS2] at *
  · exact resS_bad hh
  all_goals have h2 : okS ⟨⟨a, b⟩, ⟨c, d⟩⟩ = true ∧ okS ⟨⟨a', b'⟩, ⟨c', d'⟩⟩ = true := by simpa using hh
  all_goals have h3 := okS_p h2.1
  all_goals have h4 := okS_p h2.2
  all_goals first | exact ⟨h3.1, h4.1⟩ | exact ⟨h3.2, h4.2⟩ | exact ⟨h3.1, h4.2⟩ | exact ⟨h3.2, h4.1⟩ | exact rss_span hh rfl | exact rss_span' hh rfl
/-! the lesser one and the greater one -/
def lesQ (a b : Q) : Q := if cmpQ a b ≤ 0 then a else b
def greQ (a b : Q) : Q := if 0 ≤ cmpQ a b then a else b
theorem cmpQ_neg (a b : Q) : cmpQ b a = -cmpQ a b := by
  unfold cmpQ
  by_cases h : a.p * b.q < b.p * a.q
  · have : ¬ b.p * a.q < a.p * b.q := by omega
    simp [h, this]
  · by_cases k : b.p * a.q < a.p * b.q <;> simp [h, k]
theorem lesQ_ok {a b : Q} (ha : okQ a = true) (hb : okQ b = true) : okQ (lesQ a b) = true := by unfold lesQ; split <;> assumption
theorem greQ_ok {a b : Q} (ha : okQ a = true) (hb : okQ b = true) : okQ (greQ a b) = true := by unfold greQ; split <;> assumption
abbrev lesSp : Sp := .pf F2 F2ok (fun x => (lesQ x.1 x.2.1).v)
abbrev greSp : Sp := .pf F2 F2ok (fun x => (greQ x.1 x.2.1).v)
set_option maxRecDepth 100000 in
theorem les_ok : Sp.ok Tryz.prog 55 lesSp := by
  refine Sp.pf_ok (T := ⟨[(58, cmpSp)], []⟩) follows eqok0 ⟨enters Tryz.func58 rfl rfl, cmp_ok, trivial⟩ [] Tryz.func55 rfl (by kernel_rfl) _ _ _ fun x E hp => ?_
  obtain ⟨⟨a, c⟩, ⟨d, e⟩, u⟩ := x
  have hn := cmpQ_neg ⟨a, c⟩ ⟨d, e⟩
  (repeat' ((conv => whnf); (first | with_reducible apply And.intro | (with_reducible intro hh; first | (with_reducible have hx := NewRow.self hh; clear hx) | (with_reducible have hrow := Made.row hh; have hle := Made.le hh; have hmade := hh; clear hh) | (with_reducible have hrow := Fresh.rowS hh; have hle := Fresh.leS hh; have hfr := hh; clear hh) | (with_reducible have hx := Ext.self hh; clear hx) | (with_reducible have hx := SlV.self hh; clear hx) | (with_reducible have hx := Value.self hh; clear hx) | with_reducible cases hh | skip) | (with_reducible apply AllEq.mk; intro yy hq) | with_reducible apply trivial | with_reducible apply Exists.intro () | (with_reducible apply ex_side; (first | with_reducible assumption | with_reducible apply fracs1 | with_reducible apply fracs2 | with_reducible apply fracs3 | with_reducible apply spans1 | with_reducible apply spans2 | (with_reducible apply NewRow.keep; with_reducible assumption) | (with_reducible apply RowAt.keep; with_reducible assumption) | assumption | (focus ((repeat (first | with_reducible assumption | (with_reducible apply RowAt.le; rotate_left; with_reducible assumption) | (with_reducible apply RowB.le; rotate_left; with_reducible assumption))); done)))) | (with_reducible apply ex_side (a := (_, _)); (focus (with_reducible apply And.intro <;> (focus ((repeat (first | with_reducible assumption | (with_reducible apply RowAt.le; rotate_left; with_reducible assumption) | (with_reducible apply RowB.le; rotate_left; with_reducible assumption))); done))))))); (all_goals (conv => whnf)))
  (all_goals (try dsimp only [Q.eta, Sn.eta, SlV.eta] at *)); (all_goals (first | exact Side.mk trivial | with_reducible exact Side.mk rfl | exact Side.mk (fun _ _ h => h) | exact Side.mk (Made.le (by assumption)) | refine Side.mk ?_ | refine Don.mk ?_ | skip))
  · first | exact hp | exact ⟨hp.2, hp.1⟩
  · have h1 := of_decide_eq_true hh
    first | (rw [lesQ, if_pos (by omega)]; rfl) | (rw [lesQ, if_neg (by omega)]; rfl) | (rw [greQ, if_pos (by omega)]; rfl) | (rw [greQ, if_neg (by omega)]; rfl)
  · have h1 := of_decide_eq_false hh
    first | (rw [lesQ, if_pos (by omega)]; rfl) | (rw [lesQ, if_neg (by omega)]; rfl) | (rw [greQ, if_pos (by omega)]; rfl) | (rw [greQ, if_neg (by omega)]; rfl)
set_option maxRecDepth 100000 in
theorem gre_ok : Sp.ok Tryz.prog 56 greSp := by
  refine Sp.pf_ok (T := ⟨[(58, cmpSp)], []⟩) follows eqok0 ⟨enters Tryz.func58 rfl rfl, cmp_ok, trivial⟩ [] Tryz.func56 rfl (by kernel_rfl) _ _ _ fun x E hp => ?_
  obtain ⟨⟨a, c⟩, ⟨d, e⟩, u⟩ := x
  have hn := cmpQ_neg ⟨a, c⟩ ⟨d, e⟩
  (repeat' ((conv => whnf); (first | with_reducible apply And.intro | (with_reducible intro hh; first | (with_reducible have hx := NewRow.self hh; clear hx) | (with_reducible have hrow := Made.row hh; have hle := Made.le hh; have hmade := hh; clear hh) | (with_reducible have hrow := Fresh.rowS hh; have hle := Fresh.leS hh; have hfr := hh; clear hh) | (with_reducible have hx := Ext.self hh; clear hx) | (with_reducible have hx := SlV.self hh; clear hx) | (with_reducible have hx := Value.self hh; clear hx) | with_reducible cases hh | skip) | (with_reducible apply AllEq.mk; intro yy hq) | with_reducible apply trivial | with_reducible apply Exists.intro () | (with_reducible apply ex_side; (first | with_reducible assumption | with_reducible apply fracs1 | with_reducible apply fracs2 | with_reducible apply fracs3 | with_reducible apply spans1 | with_reducible apply spans2 | (with_reducible apply NewRow.keep; with_reducible assumption) | (with_reducible apply RowAt.keep; with_reducible assumption) | assumption | (focus ((repeat (first | with_reducible assumption | (with_reducible apply RowAt.le; rotate_left; with_reducible assumption) | (with_reducible apply RowB.le; rotate_left; with_reducible assumption))); done)))) | (with_reducible apply ex_side (a := (_, _)); (focus (with_reducible apply And.intro <;> (focus ((repeat (first | with_reducible assumption | (with_reducible apply RowAt.le; rotate_left; with_reducible assumption) | (with_reducible apply RowB.le; rotate_left; with_reducible assumption))); done))))))); (all_goals (conv => whnf)))
  (all_goals (try dsimp only [Q.eta, Sn.eta, SlV.eta] at *)); (all_goals (first | exact Side.mk trivial | with_reducible exact Side.mk rfl | exact Side.mk (fun _ _ h => h) | exact Side.mk (Made.le (by assumption)) | refine Side.mk ?_ | refine Don.mk ?_ | skip))
  · first | exact hp | exact ⟨hp.2, hp.1⟩
  · have h1 := of_decide_eq_true hh
    first | (rw [lesQ, if_pos (by omega)]; rfl) | (rw [lesQ, if_neg (by omega)]; rfl) | (rw [greQ, if_pos (by omega)]; rfl) | (rw [greQ, if_neg (by omega)]; rfl)
  · have h1 := of_decide_eq_false hh
    first | (rw [lesQ, if_pos (by omega)]; rfl) | (rw [lesQ, if_neg (by omega)]; rfl) | (rw [greQ, if_pos (by omega)]; rfl) | (rw [greQ, if_neg (by omega)]; rfl)
set_option maxRecDepth 100000 in
theorem sles_ok : Sp.ok Tryz.prog 43 lesSp := by
  refine Sp.pf_ok (T := ⟨[(92, cmpSp)], []⟩) follows eqok0 ⟨enters Tryz.func92 rfl rfl, spcmp_ok, trivial⟩ [] Tryz.func43 rfl (by kernel_rfl) _ _ _ fun x E hp => ?_
  obtain ⟨⟨a, c⟩, ⟨d, e⟩, u⟩ := x
  have hn := cmpQ_neg ⟨a, c⟩ ⟨d, e⟩
  (repeat' ((conv => whnf); (first | with_reducible apply And.intro | (with_reducible intro hh; first | (with_reducible have hx := NewRow.self hh; clear hx) | (with_reducible have hrow := Made.row hh; have hle := Made.le hh; have hmade := hh; clear hh) | (with_reducible have hrow := Fresh.rowS hh; have hle := Fresh.leS hh; have hfr := hh; clear hh) | (with_reducible have hx := Ext.self hh; clear hx) | (with_reducible have hx := SlV.self hh; clear hx) | (with_reducible have hx := Value.self hh; clear hx) | with_reducible cases hh | skip) | (with_reducible apply AllEq.mk; intro yy hq) | with_reducible apply trivial | with_reducible apply Exists.intro () | (with_reducible apply ex_side; (first | with_reducible assumption | with_reducible apply fracs1 | with_reducible apply fracs2 | with_reducible apply fracs3 | with_reducible apply spans1 | with_reducible apply spans2 | (with_reducible apply NewRow.keep; with_reducible assumption) | (with_reducible apply RowAt.keep; with_reducible assumption) | assumption | (focus ((repeat (first | with_reducible assumption | (with_reducible apply RowAt.le; rotate_left; with_reducible assumption) | (with_reducible apply RowB.le; rotate_left; with_reducible assumption))); done)))) | (with_reducible apply ex_side (a := (_, _)); (focus (with_reducible apply And.intro <;> (focus ((repeat (first | with_reducible assumption | (with_reducible apply RowAt.le; rotate_left; with_reducible assumption) | (with_reducible apply RowB.le; rotate_left; with_reducible assumption))); done))))))); (all_goals (conv => whnf)))
  (all_goals (try dsimp only [Q.eta, Sn.eta, SlV.eta] at *)); (all_goals (first | exact Side.mk trivial | with_reducible exact Side.mk rfl | exact Side.mk (fun _ _ h => h) | exact Side.mk (Made.le (by assumption)) | refine Side.mk ?_ | refine Don.mk ?_ | skip))
  · first | exact hp | exact ⟨hp.2, hp.1⟩
  · have h1 := of_decide_eq_true hh
    first | (rw [lesQ, if_pos (by omega)]; rfl) | (rw [lesQ, if_neg (by omega)]; rfl) | (rw [greQ, if_pos (by omega)]; rfl) | (rw [greQ, if_neg (by omega)]; rfl)
  · have h1 := of_decide_eq_false hh
    first | (rw [lesQ, if_pos (by omega)]; rfl) | (rw [lesQ, if_neg (by omega)]; rfl) | (rw [greQ, if_pos (by omega)]; rfl) | (rw [greQ, if_neg (by omega)]; rfl)
set_option maxRecDepth 100000 in
theorem sgre_ok : Sp.ok Tryz.prog 44 greSp := by
  refine Sp.pf_ok (T := ⟨[(92, cmpSp)], []⟩) follows eqok0 ⟨enters Tryz.func92 rfl rfl, spcmp_ok, trivial⟩ [] Tryz.func44 rfl (by kernel_rfl) _ _ _ fun x E hp => ?_
  obtain ⟨⟨a, c⟩, ⟨d, e⟩, u⟩ := x
  have hn := cmpQ_neg ⟨a, c⟩ ⟨d, e⟩
  (repeat' ((conv => whnf); (first | with_reducible apply And.intro | (with_reducible intro hh; first | (with_reducible have hx := NewRow.self hh; clear hx) | (with_reducible have hrow := Made.row hh; have hle := Made.le hh; have hmade := hh; clear hh) | (with_reducible have hrow := Fresh.rowS hh; have hle := Fresh.leS hh; have hfr := hh; clear hh) | (with_reducible have hx := Ext.self hh; clear hx) | (with_reducible have hx := SlV.self hh; clear hx) | (with_reducible have hx := Value.self hh; clear hx) | with_reducible cases hh | skip) | (with_reducible apply AllEq.mk; intro yy hq) | with_reducible apply trivial | with_reducible apply Exists.intro () | (with_reducible apply ex_side; (first | with_reducible assumption | with_reducible apply fracs1 | with_reducible apply fracs2 | with_reducible apply fracs3 | with_reducible apply spans1 | with_reducible apply spans2 | (with_reducible apply NewRow.keep; with_reducible assumption) | (with_reducible apply RowAt.keep; with_reducible assumption) | assumption | (focus ((repeat (first | with_reducible assumption | (with_reducible apply RowAt.le; rotate_left; with_reducible assumption) | (with_reducible apply RowB.le; rotate_left; with_reducible assumption))); done)))) | (with_reducible apply ex_side (a := (_, _)); (focus (with_reducible apply And.intro <;> (focus ((repeat (first | with_reducible assumption | (with_reducible apply RowAt.le; rotate_left; with_reducible assumption) | (with_reducible apply RowB.le; rotate_left; with_reducible assumption))); done))))))); (all_goals (conv => whnf)))
  (all_goals (try dsimp only [Q.eta, Sn.eta, SlV.eta] at *)); (all_goals (first | exact Side.mk trivial | with_reducible exact Side.mk rfl | exact Side.mk (fun _ _ h => h) | exact Side.mk (Made.le (by assumption)) | refine Side.mk ?_ | refine Don.mk ?_ | skip))
  · first | exact hp | exact ⟨hp.2, hp.1⟩
  · have h1 := of_decide_eq_true hh
    first | (rw [lesQ, if_pos (by omega)]; rfl) | (rw [lesQ, if_neg (by omega)]; rfl) | (rw [greQ, if_pos (by omega)]; rfl) | (rw [greQ, if_neg (by omega)]; rfl)
  · have h1 := of_decide_eq_false hh
    first | (rw [lesQ, if_pos (by omega)]; rfl) | (rw [lesQ, if_neg (by omega)]; rfl) | (rw [greQ, if_pos (by omega)]; rfl) | (rw [greQ, if_neg (by omega)]; rfl)
def meeS (s t : Sn) : Sn := ⟨greQ s.lo t.lo, lesQ s.hi t.hi⟩
def meeR (s t : Sn) : Sn × Int := grd S0 (okS s && okS t) 1 (grd S0 (decide (cmpQ (meeS s t).lo (meeS s t).hi ≤ 0)) 6 (meeS s t, 0))
abbrev meetSp : Sp := .pf S2 (fun x => okP x.1 ∧ okP x.2.1) (fun x => .tuple #[(meeS x.1 x.2.1).v, .bool (decide (cmpQ (meeS x.1 x.2.1).lo (meeS x.1 x.2.1).hi ≤ 0))])
set_option maxRecDepth 100000 in
theorem smeet_ok : Sp.ok Tryz.prog 65 meetSp := by
  refine Sp.pf_ok (T := ⟨[(44, greSp), (43, lesSp), (92, cmpSp)], []⟩) follows eqok0 ⟨enters Tryz.func44 rfl rfl, sgre_ok, enters Tryz.func43 rfl rfl, sles_ok, enters Tryz.func92 rfl rfl, spcmp_ok, trivial⟩ [(1, .take 0 (.take 1 (.take 2 (.take 3 (.take 5 (.take 6 (.take 7 (.take 8 (.alt 4 (.alt 9 (.take 10 (.alt 11 (.alt 12 (.done) (.last)) (.last))) (.alt 11 (.alt 9 (.take 10 (.alt 12 (.done) (.last))) (.last)) (.last))) (.alt 11 (.alt 4 (.alt 9 (.take 10 (.alt 12 (.done) (.last))) (.last)) (.last)) (.last))))))))))), (2, .take 0 (.take 1 (.take 2 (.take 3 (.take 4 (.alt 5 (.take 6 (.alt 7 (.take 8 (.done)) (.last))) (.last)))))))] Tryz.func65 rfl (by kernel_rfl) _ _ _ fun x E hp => ?_
  obtain ⟨⟨⟨a, b⟩, ⟨c, d⟩⟩, ⟨⟨a', b'⟩, ⟨c', d'⟩⟩, u⟩ := x
  (repeat' ((conv => whnf); (first | with_reducible apply And.intro | (with_reducible intro hh; first | (with_reducible have hx := NewRow.self hh; clear hx) | (with_reducible have hrow := Made.row hh; have hle := Made.le hh; have hmade := hh; clear hh) | (with_reducible have hrow := Fresh.rowS hh; have hle := Fresh.leS hh; have hfr := hh; clear hh) | (with_reducible have hx := Ext.self hh; clear hx) | (with_reducible have hx := SlV.self hh; clear hx) | (with_reducible have hx := Value.self hh; clear hx) | with_reducible cases hh | skip) | (with_reducible apply AllEq.mk; intro yy hq) | with_reducible apply trivial | with_reducible apply Exists.intro () | (with_reducible apply ex_side; (first | with_reducible assumption | with_reducible apply fracs1 | with_reducible apply fracs2 | with_reducible apply fracs3 | with_reducible apply spans1 | with_reducible apply spans2 | (with_reducible apply NewRow.keep; with_reducible assumption) | (with_reducible apply RowAt.keep; with_reducible assumption) | assumption | (focus ((repeat (first | with_reducible assumption | (with_reducible apply RowAt.le; rotate_left; with_reducible assumption) | (with_reducible apply RowB.le; rotate_left; with_reducible assumption))); done)))) | (with_reducible apply ex_side (a := (_, _)); (focus (with_reducible apply And.intro <;> (focus ((repeat (first | with_reducible assumption | (with_reducible apply RowAt.le; rotate_left; with_reducible assumption) | (with_reducible apply RowB.le; rotate_left; with_reducible assumption))); done))))))); (all_goals (conv => whnf)))
  (all_goals (try dsimp only [Q.eta, Sn.eta, SlV.eta] at *)); (all_goals (first | exact Side.mk trivial | with_reducible exact Side.mk rfl | exact Side.mk (fun _ _ h => h) | exact Side.mk (Made.le (by assumption)) | refine Side.mk ?_ | refine Don.mk ?_ | skip))
  all_goals first | exact ⟨hp.1.1, hp.2.1⟩ | exact ⟨hp.1.2, hp.2.2⟩ | exact ⟨greQ_ok hp.1.1 hp.2.1, lesQ_ok hp.1.2 hp.2.2⟩ | rfl
theorem okS_meet {s t : Sn} (h : okP s) (k : okP t) : okS (meeS s t) = decide (cmpQ (meeS s t).lo (meeS s t).hi ≤ 0) := by
  have h1 : okQ (meeS s t).lo = true := greQ_ok h.1 k.1
  have h2 : okQ (meeS s t).hi = true := lesQ_ok h.2 k.2
  rw [okS, h1, h2]
  rfl
abbrev meetFSp : Sp := .pf S2 (fun _ => True) (fun x => RS (meeR x.1 x.2.1))
set_option maxRecDepth 100000 in
theorem smeetF_ok : Sp.ok Tryz.prog 21 meetFSp := by
  refine Sp.pf_ok (T := ⟨[(64, spansPSp), (65, meetSp)], []⟩) follows eqok0 ⟨enters Tryz.func64 rfl rfl, spansP_ok, enters Tryz.func65 rfl rfl, smeet_ok, trivial⟩ [] Tryz.func21 rfl (by kernel_rfl) _ _ _ fun x E hp => ?_
  obtain ⟨⟨⟨a, b⟩, ⟨c, d⟩⟩, ⟨⟨a', b'⟩, ⟨c', d'⟩⟩, u⟩ := x
  (repeat' ((conv => whnf); (first | with_reducible apply And.intro | (with_reducible intro hh; first | (with_reducible have hx := NewRow.self hh; clear hx) | (with_reducible have hrow := Made.row hh; have hle := Made.le hh; have hmade := hh; clear hh) | (with_reducible have hrow := Fresh.rowS hh; have hle := Fresh.leS hh; have hfr := hh; clear hh) | (with_reducible have hx := Ext.self hh; clear hx) | (with_reducible have hx := SlV.self hh; clear hx) | (with_reducible have hx := Value.self hh; clear hx) | with_reducible cases hh | skip) | (with_reducible apply AllEq.mk; intro yy hq) | with_reducible apply trivial | with_reducible apply Exists.intro () | (with_reducible apply ex_side; (first | with_reducible assumption | with_reducible apply fracs1 | with_reducible apply fracs2 | with_reducible apply fracs3 | with_reducible apply spans1 | with_reducible apply spans2 | (with_reducible apply NewRow.keep; with_reducible assumption) | (with_reducible apply RowAt.keep; with_reducible assumption) | assumption | (focus ((repeat (first | with_reducible assumption | (with_reducible apply RowAt.le; rotate_left; with_reducible assumption) | (with_reducible apply RowB.le; rotate_left; with_reducible assumption))); done)))) | (with_reducible apply ex_side (a := (_, _)); (focus (with_reducible apply And.intro <;> (focus ((repeat (first | with_reducible assumption | (with_reducible apply RowAt.le; rotate_left; with_reducible assumption) | (with_reducible apply RowB.le; rotate_left; with_reducible assumption))); done))))))); (all_goals (conv => whnf)))
  (all_goals (try dsimp only [Q.eta, Sn.eta, SlV.eta] at *)); (all_goals (first | exact Side.mk trivial | with_reducible exact Side.mk rfl | exact Side.mk (fun _ _ h => h) | exact Side.mk (Made.le (by assumption)) | refine Side.mk ?_ | refine Don.mk ?_ | skip))
  all_goals simp only [code_ne] at *
  · rw [meeR, grd_no (not_t hh), if_neg (by simp [not_t hh])]; rfl
  · have h2 : okS ⟨⟨a, b⟩, ⟨c, d⟩⟩ = true ∧ okS ⟨⟨a', b'⟩, ⟨c', d'⟩⟩ = true := by simpa using hh
    exact ⟨okS_p h2.1, okS_p h2.2⟩
  · rename_i h1
    rw [meeR, grd_yes (not_f hh), grd_no (not_t h1)]; rfl
  · rename_i h1
    rw [meeR, grd_yes (not_f hh), grd_yes (not_f h1)]; rfl
set_option maxRecDepth 100000 in
theorem meetF_ok : Sp.ok Tryz.prog 20 meetFSp := by
  refine Sp.pf_ok (T := ⟨[(48, spsSp), (56, greSp), (55, lesSp), (15, spanVSp)], []⟩) follows eqok0 ⟨enters Tryz.func48 rfl rfl, sps_ok, enters Tryz.func56 rfl rfl, gre_ok, enters Tryz.func55 rfl rfl, les_ok, enters Tryz.func15 rfl rfl, spanV_ok, trivial⟩ [(3, .take 0 (.take 1 (.take 2 (.take 3 (.take 5 (.take 6 (.take 7 (.take 8 (.alt 4 (.alt 9 (.take 10 (.alt 11 (.alt 12 (.done) (.last)) (.last))) (.alt 11 (.alt 9 (.take 10 (.alt 12 (.done) (.last))) (.last)) (.last))) (.alt 11 (.alt 4 (.alt 9 (.take 10 (.alt 12 (.done) (.last))) (.last)) (.last)) (.last)))))))))))] Tryz.func20 rfl (by kernel_rfl) _ _ _ fun x E hp => ?_
  obtain ⟨⟨⟨a, b⟩, ⟨c, d⟩⟩, ⟨⟨a', b'⟩, ⟨c', d'⟩⟩, u⟩ := x
  (repeat' ((conv => whnf); (first | with_reducible apply And.intro | (with_reducible intro hh; first | (with_reducible have hx := NewRow.self hh; clear hx) | (with_reducible have hrow := Made.row hh; have hle := Made.le hh; have hmade := hh; clear hh) | (with_reducible have hrow := Fresh.rowS hh; have hle := Fresh.leS hh; have hfr := hh; clear hh) | (with_reducible have hx := Ext.self hh; clear hx) | (with_reducible have hx := SlV.self hh; clear hx) | (with_reducible have hx := Value.self hh; clear hx) | with_reducible cases hh | skip) | (with_reducible apply AllEq.mk; intro yy hq) | with_reducible apply trivial | with_reducible apply Exists.intro () | (with_reducible apply ex_side; (first | with_reducible assumption | with_reducible apply fracs1 | with_reducible apply fracs2 | with_reducible apply fracs3 | with_reducible apply spans1 | with_reducible apply spans2 | (with_reducible apply NewRow.keep; with_reducible assumption) | (with_reducible apply RowAt.keep; with_reducible assumption) | assumption | (focus ((repeat (first | with_reducible assumption | (with_reducible apply RowAt.le; rotate_left; with_reducible assumption) | (with_reducible apply RowB.le; rotate_left; with_reducible assumption))); done)))) | (with_reducible apply ex_side (a := (_, _)); (focus (with_reducible apply And.intro <;> (focus ((repeat (first | with_reducible assumption | (with_reducible apply RowAt.le; rotate_left; with_reducible assumption) | (with_reducible apply RowB.le; rotate_left; with_reducible assumption))); done))))))); (all_goals (conv => whnf)))
  (all_goals (try dsimp only [Q.eta, Sn.eta, SlV.eta] at *)); (all_goals (first | exact Side.mk trivial | with_reducible exact Side.mk rfl | exact Side.mk (fun _ _ h => h) | exact Side.mk (Made.le (by assumption)) | refine Side.mk ?_ | refine Don.mk ?_ | skip))
  all_goals simp only [allS2] at *
  · rw [meeR, grd_no (not_t hh)]; rfl
  all_goals have h2 : okS ⟨⟨a, b⟩, ⟨c, d⟩⟩ = true ∧ okS ⟨⟨a', b'⟩, ⟨c', d'⟩⟩ = true := by simpa using hh
  all_goals have h3 := okS_p h2.1
  all_goals have h4 := okS_p h2.2
  all_goals first | exact ⟨h3.1, h4.1⟩ | exact ⟨h3.2, h4.2⟩ | skip
  all_goals rename_i h1
  all_goals have h5 := (okS_meet h3 h4).symm
  all_goals first | (rw [meeR, grd_yes (not_f hh), grd_no (h5.trans (not_t h1))]; rfl) | (rw [meeR, grd_yes (not_f hh), grd_yes (h5.trans (not_f h1))]; rfl)

end Go.Proofs.YtadliapkjijahaaGreatDoor
