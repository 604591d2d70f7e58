/- Contract of the reference's function that sorts; condition: valid fractions. -/
import Derived.Test.YtoolfecbiifplaaAb
import Derived.Test.YtoolfecbiifplaaC1
import Derived.Test.YtoolfecbiifplaaC2
import Derived.Test.YtoolfecbiifplaaC3
import Derived.Test.YtoolfecbiifplaaC4
import Derived.Test.YtoolfecbiifplaaC10
import Derived.Test.YtoolfecbiifplaaC12
import Derived.Test.YtoolfecbiifplaaC25
import Derived.Test.YtoolfecbiifplaaC30
import Derived.Test.YtoolfecbiifplaaCN
import Derived.Test.YtoolfecbiifplaaCS
import Derived.Test.YtoolfecbiifplaaC40
import Derived.Test.YtoolfecbiifplaaC41
import Derived.Test.YtoolfecbiifplaaC42
import Derived.Test.YtoolfecbiifplaaC43
import Derived.Test.YtoolfecbiifplaaC39
import Derived.Test.YtoolfecbiifplaaC45
import Derived.Test.YtoolfecbiifplaaProg
set_option linter.unusedVariables false
set_option linter.unusedSimpArgs false
namespace Go.Proofs.Ytoolfecbiifplaa
open Ab

open Go.Shelf Go.RowKit Go.Lib Go.Sort
abbrev srtSp : Sp := .nf FS (fun x (d : List VQ) E => FracsAt x.1 (d.map (·.1)) E ∧ d.length ≤ 1048576) (fun _ _ (y : SlV) => SlV.v y) (fun _ d y E E' => Side (Fresh 25 2 Q.cells y ((srtV d).map (·.1)) E E' ∧ y.n ≤ y.c))


set_option maxHeartbeats 4000000 in
set_option maxRecDepth 100000 in
theorem srt_ok : Sp.ok Try.prog 94 srtSp := by
  refine Sp.nf_ok (T := ⟨[(54, cmpSp)], []⟩) follows eqok0 ⟨enters Try.func54 rfl rfl, spcmp_ok, trivial⟩ [(6, .take 0 (.take 1 (.take 2 (.take 3 (.take 4 (.take 5 (.take 6 (.take 7 (.take 8 (.take 9 (.take 10 (.take 11 (.take 12 (.alt 13 (.take 14 (.take 15 (.done))) (.last))))))))))))))), (8, .take 0 (.take 1 (.take 2 (.take 3 (.take 5 (.take 6 (.take 7 (.alt 4 (.alt 8 (.take 9 (.done)) (.last)) (.last)))))))))] Try.func94 rfl (by kernel_rfl) _ _ _ _ fun x d E hp => ?_
  obtain ⟨⟨sa, n, c⟩, u⟩ := x
  obtain ⟨hp, hs⟩ := hp
  dsimp only at hp
  have hn : n = d.length := by have := hp.1; simpa using this
  (repeat' ((conv => whnf); (first | with_reducible apply And.intro | (with_reducible intro hh; first | (with_reducible have hx := NewRow.self hh; clear hx) | (with_reducible have hrow := Made.row hh; have hle := Made.le hh; have hmade := hh; clear hh) | (with_reducible have hrow := Fresh.rowS hh; have hle := Fresh.leS hh; have hfr := hh; clear hh) | (with_reducible have hx := Ext.self hh; clear hx) | (with_reducible have hx := SlV.self hh; clear hx) | (with_reducible have hx := Value.self hh; clear hx) | with_reducible cases hh | skip) | (with_reducible apply AllEq.mk; intro yy hq) | with_reducible apply trivial | with_reducible apply Exists.intro () | (with_reducible apply ex_side; (first | with_reducible assumption | with_reducible apply fracs1 | with_reducible apply fracs2 | with_reducible apply fracs3 | with_reducible apply spans1 | with_reducible apply spans2 | (with_reducible apply NewRow.keep; with_reducible assumption) | (with_reducible apply RowAt.keep; with_reducible assumption) | assumption | (focus ((repeat (first | with_reducible assumption | (with_reducible apply RowAt.le; rotate_left; with_reducible assumption) | (with_reducible apply RowB.le; rotate_left; with_reducible assumption))); done)))) | (with_reducible apply ex_side (a := (_, _)); (focus (with_reducible apply And.intro <;> (focus ((repeat (first | with_reducible assumption | (with_reducible apply RowAt.le; rotate_left; with_reducible assumption) | (with_reducible apply RowB.le; rotate_left; with_reducible assumption))); done))))))); (all_goals (conv => whnf)))
  (all_goals (try dsimp only [Q.eta, Sn.eta, SlV.eta] at *)); (all_goals (first | exact Side.mk trivial | with_reducible exact Side.mk rfl | exact Side.mk (fun _ _ h => h) | exact Side.mk (Made.le (by assumption)) | refine Side.mk ?_ | refine Don.mk ?_ | skip))
  have h0 := Grow.fresh0 (c := 2) (en := Q.cells) hh
  revert h0
  generalize hh.b = b0
  generalize hh.to = E0
  intro h0
  clear hh
  refine ⟨fun m s => ∃ (k : Nat) (i : Int) (o : SlV) (E1 : Ext) (wg : Nat → AV) (ww : Nat → Value), m = n - k ∧ i = (k : Int) ∧ k ≤ n ∧ Grow 25 2 Q.cells E o ((srtV (d.take k)).map (·.1)) E1 ∧ s = ⟨[.v (.slice sa n c), wg 0, wg 1, .v (.slice o.a o.n o.c), .v (.int .i64 i), wg 2, wg 3, wg 4, wg 5, wg 6, wg 7, wg 8, wg 9, wg 10, wg 11, wg 12, wg 13, wg 14, wg 15, wg 16, wg 17, wg 18, wg 19, wg 20, wg 21, wg 22, wg 23, wg 24, wg 25, wg 26, wg 27, wg 28, wg 29, wg 30, wg 31, wg 32, wg 33, wg 34, wg 35, wg 36, wg 37, wg 38, wg 39, wg 40, wg 41, wg 42, wg 43, wg 44, wg 45], [], E1⟩, ⟨_, 0, _, ⟨some ⟨b0, 0, none⟩, 0, 0⟩, E0, nthA [_, _, _, _, _, _, _, _, _, _, _, _, _, _, _, _, _, _, _, _, _, _, _, _, _, _, _, _, _, _, _, _, _, _, _, _, _, _, _, _, _, _, _, _, _, _], nthV [], rfl, rfl, Nat.zero_le _, h0, rfl⟩, ?_⟩
  clear h0
  rintro m s ⟨k, i, ⟨oa, on, oc⟩, E1, wg, ww, rfl, rfl, hk, hg, rfl⟩
  have hon : on = k := by
    have := hg.done.row.1
    simp [srtV_len] at this
    omega
  rcases hdk : d[k]? with _ | x
  · have hge := List.getElem?_eq_none_iff.1 hdk
    rw [List.take_of_length_le hge] at hg
    (repeat' ((conv => whnf); (first | with_reducible apply And.intro | (with_reducible intro hh; first | (with_reducible have hx := NewRow.self hh; clear hx) | (with_reducible have hrow := Made.row hh; have hle := Made.le hh; have hmade := hh; clear hh) | (with_reducible have hrow := Fresh.rowS hh; have hle := Fresh.leS hh; have hfr := hh; clear hh) | (with_reducible have hx := Ext.self hh; clear hx) | (with_reducible have hx := SlV.self hh; clear hx) | (with_reducible have hx := Value.self hh; clear hx) | with_reducible cases hh | skip) | (with_reducible apply AllEq.mk; intro yy hq) | with_reducible apply trivial | with_reducible apply Exists.intro () | (with_reducible apply ex_side; (first | with_reducible assumption | with_reducible apply fracs1 | with_reducible apply fracs2 | with_reducible apply fracs3 | with_reducible apply spans1 | with_reducible apply spans2 | (with_reducible apply NewRow.keep; with_reducible assumption) | (with_reducible apply RowAt.keep; with_reducible assumption) | assumption | (focus ((repeat (first | with_reducible assumption | (with_reducible apply RowAt.le; rotate_left; with_reducible assumption) | (with_reducible apply RowB.le; rotate_left; with_reducible assumption))); done)))) | (with_reducible apply ex_side (a := (_, _)); (focus (with_reducible apply And.intro <;> (focus ((repeat (first | with_reducible assumption | (with_reducible apply RowAt.le; rotate_left; with_reducible assumption) | (with_reducible apply RowB.le; rotate_left; with_reducible assumption))); done))))))); (all_goals (conv => whnf)))
    (all_goals (try dsimp only [Q.eta, Sn.eta, SlV.eta] at *)); (all_goals (first | exact Side.mk trivial | with_reducible exact Side.mk rfl | exact Side.mk (fun _ _ h => h) | exact Side.mk (Made.le (by assumption)) | refine Side.mk ?_ | refine Don.mk ?_ | skip))
    all_goals first | (exfalso; have := of_decide_eq_true hh; omega) | exact ⟨⟨oa, on, oc⟩, rfl, Side.mk ⟨hg.done, hg.own.2.1⟩⟩
  · have hlt : k < d.length := (List.getElem?_eq_some_iff.1 hdk).1
    have hx1 : (d.map (·.1))[k]? = some x.1 := by rw [List.getElem?_map, hdk]; rfl
    have htk : d.take (k + 1) = d.take k ++ [x] := by rw [List.take_add_one, hdk]; rfl
    cases sa with
    | none => have := hp.2.2.1 rfl; rw [this] at hx1; cases hx1
    | some a =>
    have hpE := hp.le hg.le
    have hro := hg.done.row
    obtain ⟨x0, x1⟩ := FracsAt.at hpE (a := a) rfl hx1
    have hox : FracsAt ⟨oa, on, oc⟩ ((srtV (d.take k)).map (·.1)) E1 := hro
    obtain ⟨L, hL⟩ : ∃ L, L = (srtV (d.take k)).map (·.1) := ⟨_, rfl⟩
    have hLn : L.length = on := by rw [hL, List.length_map, srtV_len, List.length_take]; omega
    rw [← hL] at hox
    have hoc : on ≤ oc := hg.own.2.1
    have hsl := srtV_len (d.take k)
    rw [List.length_take] at hsl
    (repeat' ((conv => whnf); (first | with_reducible apply And.intro | (with_reducible intro hh; first | (with_reducible have hx := NewRow.self hh; clear hx) | (with_reducible have hrow := Made.row hh; have hle := Made.le hh; have hmade := hh; clear hh) | (with_reducible have hrow := Fresh.rowS hh; have hle := Fresh.leS hh; have hfr := hh; clear hh) | (with_reducible have hx := Ext.self hh; clear hx) | (with_reducible have hx := SlV.self hh; clear hx) | (with_reducible have hx := Value.self hh; clear hx) | with_reducible cases hh | skip) | (with_reducible apply AllEq.mk; intro yy hq) | with_reducible apply trivial | with_reducible apply Exists.intro () | (with_reducible apply ex_side; (first | with_reducible assumption | with_reducible apply fracs1 | with_reducible apply fracs2 | with_reducible apply fracs3 | with_reducible apply spans1 | with_reducible apply spans2 | (with_reducible apply NewRow.keep; with_reducible assumption) | (with_reducible apply RowAt.keep; with_reducible assumption) | assumption | (focus ((repeat (first | with_reducible assumption | (with_reducible apply RowAt.le; rotate_left; with_reducible assumption) | (with_reducible apply RowB.le; rotate_left; with_reducible assumption))); done)))) | (with_reducible apply ex_side (a := (_, _)); (focus (with_reducible apply And.intro <;> (focus ((repeat (first | with_reducible assumption | (with_reducible apply RowAt.le; rotate_left; with_reducible assumption) | (with_reducible apply RowB.le; rotate_left; with_reducible assumption))); done))))))); (all_goals (conv => whnf)))
    · clear hh
      refine ⟨fun m s => ∃ (j : Nat) (i : Int) (wg : Nat → AV) (ww : Nat → Value), m = on - j ∧ i = (j : Int) ∧ j ≤ on ∧ (∀ i y, i < j → (srtV (d.take k))[i]? = some y → cmpQ y.1 x.1 ≤ 0) ∧ s = ⟨[.v (.slice (some a) n c), wg 0, wg 1, .v (.slice oa on oc), .v (.int .i64 k), .v (.int .i64 i), wg 2, wg 3, wg 4, wg 5, wg 6, wg 7, wg 8, wg 9, wg 10, wg 11, wg 12, wg 13, wg 14, wg 15, wg 16, wg 17, wg 18, wg 19, wg 20, wg 21, wg 22, wg 23, wg 24, wg 25, wg 26, wg 27, wg 28, wg 29, wg 30, wg 31, wg 32, wg 33, wg 34, wg 35, wg 36, wg 37, wg 38, wg 39, wg 40, wg 41, wg 42, wg 43, wg 44], [], E1⟩, ⟨_, 0, _, nthA [_, _, _, _, _, _, _, _, _, _, _, _, _, _, _, _, _, _, _, _, _, _, _, _, _, _, _, _, _, _, _, _, _, _, _, _, _, _, _, _, _, _, _, _, _], nthV [], rfl, rfl, Nat.zero_le _, fun i y hi => absurd hi (Nat.not_lt_zero _), rfl⟩, ?_⟩
      rintro m s ⟨j, i, wg, ww, rfl, rfl, hj, hv, rfl⟩
      rcases hrj : (srtV (d.take k))[j]? with _ | y
      · have hge := List.getElem?_eq_none_iff.1 hrj
        have hend : ∀ y, (srtV (d.take k))[j]? = some y → ¬ cmpQ y.1 x.1 ≤ 0 := fun y hy => by rw [hrj] at hy; cases hy
        (repeat' ((conv => whnf); (first | with_reducible apply And.intro | (with_reducible intro hh; first | (with_reducible have hx := NewRow.self hh; clear hx) | (with_reducible have hrow := Made.row hh; have hle := Made.le hh; have hmade := hh; clear hh) | (with_reducible have hrow := Fresh.rowS hh; have hle := Fresh.leS hh; have hfr := hh; clear hh) | (with_reducible have hx := Ext.self hh; clear hx) | (with_reducible have hx := SlV.self hh; clear hx) | (with_reducible have hx := Value.self hh; clear hx) | with_reducible cases hh | skip) | (with_reducible apply AllEq.mk; intro yy hq) | with_reducible apply trivial | with_reducible apply Exists.intro () | (with_reducible apply ex_side; (first | with_reducible assumption | with_reducible apply fracs1 | with_reducible apply fracs2 | with_reducible apply fracs3 | with_reducible apply spans1 | with_reducible apply spans2 | (with_reducible apply NewRow.keep; with_reducible assumption) | (with_reducible apply RowAt.keep; with_reducible assumption) | assumption | (focus ((repeat (first | with_reducible assumption | (with_reducible apply RowAt.le; rotate_left; with_reducible assumption) | (with_reducible apply RowB.le; rotate_left; with_reducible assumption))); done)))) | (with_reducible apply ex_side (a := (_, _)); (focus (with_reducible apply And.intro <;> (focus ((repeat (first | with_reducible assumption | (with_reducible apply RowAt.le; rotate_left; with_reducible assumption) | (with_reducible apply RowB.le; rotate_left; with_reducible assumption))); done))))))); (all_goals (conv => whnf)))
        all_goals try (exfalso; have := of_decide_eq_true (by assumption : decide ((j : Int) < (on : Int)) = true); omega)
        all_goals try exact Side.mk ⟨by omega, by omega⟩
        · have g1 := Grow.fresh1 x.1 hh
          have hE1 := hh.le
          have hdrop := cells_row (part_drop (hox.le hh.le) j (by omega) hoc)
          refine ⟨([x.1].flatMap Q.cells, (L.drop j).flatMap Q.cells), Side.mk ⟨g1.own, hdrop, cells_ok _, by dsimp only; omega⟩, fun r2 E2 hp2 => ?_⟩
          have g2 := g1.app hp2
          have n2 := hp2.n
          dsimp only at n2
          clear hdrop g1
          obtain ⟨r2a, r2n, r2c⟩ := r2
          (repeat' ((conv => whnf); (first | with_reducible apply And.intro | (with_reducible intro hh; first | (with_reducible have hx := NewRow.self hh; clear hx) | (with_reducible have hrow := Made.row hh; have hle := Made.le hh; have hmade := hh; clear hh) | (with_reducible have hrow := Fresh.rowS hh; have hle := Fresh.leS hh; have hfr := hh; clear hh) | (with_reducible have hx := Ext.self hh; clear hx) | (with_reducible have hx := SlV.self hh; clear hx) | (with_reducible have hx := Value.self hh; clear hx) | with_reducible cases hh | skip) | (with_reducible apply AllEq.mk; intro yy hq) | with_reducible apply trivial | with_reducible apply Exists.intro () | (with_reducible apply ex_side; (first | with_reducible assumption | with_reducible apply fracs1 | with_reducible apply fracs2 | with_reducible apply fracs3 | with_reducible apply spans1 | with_reducible apply spans2 | (with_reducible apply NewRow.keep; with_reducible assumption) | (with_reducible apply RowAt.keep; with_reducible assumption) | assumption | (focus ((repeat (first | with_reducible assumption | (with_reducible apply RowAt.le; rotate_left; with_reducible assumption) | (with_reducible apply RowB.le; rotate_left; with_reducible assumption))); done)))) | (with_reducible apply ex_side (a := (_, _)); (focus (with_reducible apply And.intro <;> (focus ((repeat (first | with_reducible assumption | (with_reducible apply RowAt.le; rotate_left; with_reducible assumption) | (with_reducible apply RowB.le; rotate_left; with_reducible assumption))); done))))))); (all_goals (conv => whnf)))
          all_goals try exact Side.mk ⟨by omega, by omega, by omega⟩
          (all_goals (try dsimp only [Q.eta, Sn.eta, SlV.eta] at *)); (all_goals (first | exact Side.mk trivial | with_reducible exact Side.mk rfl | exact Side.mk (fun _ _ h => h) | exact Side.mk (Made.le (by assumption)) | refine Side.mk ?_ | refine Don.mk ?_ | skip))
          have g3 := Grow.fresh0 (c := 2) (en := Q.cells) hh
          have htake := cells_row (part_take0 (hox.le (Ext.le_trans (Ext.le_trans hE1 hp2.le) hh.le)) j (by omega) hoc)
          have hE2 := hh.le
          refine ⟨([], (L.take j).flatMap Q.cells), Side.mk ⟨g3.own, htake, cells_ok _, by dsimp only; omega⟩, fun r5 E5 hp5 => ?_⟩
          have g5 := g3.app hp5
          have n5 := hp5.n
          dsimp only at n5
          clear htake g3
          obtain ⟨r5a, r5n, r5c⟩ := r5
          (repeat' ((conv => whnf); (first | with_reducible apply And.intro | (with_reducible intro hh; first | (with_reducible have hx := NewRow.self hh; clear hx) | (with_reducible have hrow := Made.row hh; have hle := Made.le hh; have hmade := hh; clear hh) | (with_reducible have hrow := Fresh.rowS hh; have hle := Fresh.leS hh; have hfr := hh; clear hh) | (with_reducible have hx := Ext.self hh; clear hx) | (with_reducible have hx := SlV.self hh; clear hx) | (with_reducible have hx := Value.self hh; clear hx) | with_reducible cases hh | skip) | (with_reducible apply AllEq.mk; intro yy hq) | with_reducible apply trivial | with_reducible apply Exists.intro () | (with_reducible apply ex_side; (first | with_reducible assumption | with_reducible apply fracs1 | with_reducible apply fracs2 | with_reducible apply fracs3 | with_reducible apply spans1 | with_reducible apply spans2 | (with_reducible apply NewRow.keep; with_reducible assumption) | (with_reducible apply RowAt.keep; with_reducible assumption) | assumption | (focus ((repeat (first | with_reducible assumption | (with_reducible apply RowAt.le; rotate_left; with_reducible assumption) | (with_reducible apply RowB.le; rotate_left; with_reducible assumption))); done)))) | (with_reducible apply ex_side (a := (_, _)); (focus (with_reducible apply And.intro <;> (focus ((repeat (first | with_reducible assumption | (with_reducible apply RowAt.le; rotate_left; with_reducible assumption) | (with_reducible apply RowB.le; rotate_left; with_reducible assumption))); done))))))); (all_goals (conv => whnf)))
          (all_goals (try dsimp only [Q.eta, Sn.eta, SlV.eta] at *)); (all_goals (first | exact Side.mk trivial | with_reducible exact Side.mk rfl | exact Side.mk (fun _ _ h => h) | exact Side.mk (Made.le (by assumption)) | refine Side.mk ?_ | refine Don.mk ?_ | skip))
          have hr2 := cells_row (g2.done.row.le (Ext.le_trans hE2 hp5.le))
          refine ⟨(([] ++ L.take j).flatMap Q.cells, ([x.1] ++ L.drop j).flatMap Q.cells), Side.mk ⟨g5.own, hr2, cells_ok _, by dsimp only; omega⟩, fun r6 E6 hp6 => ?_⟩
          have g6 := g5.app hp6
          have hins : (srtV (d.take (k + 1))).map (·.1) = ([] ++ L.take j) ++ ([x.1] ++ L.drop j) := by
            rw [htk, srtV_push, insV_at x (srtV (d.take k)) j (by omega) hv hend]
            simp [hL, List.map_take, List.map_drop]
          have g7 := g6.before (hg.keeps.trans g2.keeps)
          rw [← hins] at g7
          obtain ⟨r6a, r6n, r6c⟩ := r6
          (repeat' ((conv => whnf); (first | with_reducible apply And.intro | (with_reducible intro hh; first | (with_reducible have hx := NewRow.self hh; clear hx) | (with_reducible have hrow := Made.row hh; have hle := Made.le hh; have hmade := hh; clear hh) | (with_reducible have hrow := Fresh.rowS hh; have hle := Fresh.leS hh; have hfr := hh; clear hh) | (with_reducible have hx := Ext.self hh; clear hx) | (with_reducible have hx := SlV.self hh; clear hx) | (with_reducible have hx := Value.self hh; clear hx) | with_reducible cases hh | skip) | (with_reducible apply AllEq.mk; intro yy hq) | with_reducible apply trivial | with_reducible apply Exists.intro () | (with_reducible apply ex_side; (first | with_reducible assumption | with_reducible apply fracs1 | with_reducible apply fracs2 | with_reducible apply fracs3 | with_reducible apply spans1 | with_reducible apply spans2 | (with_reducible apply NewRow.keep; with_reducible assumption) | (with_reducible apply RowAt.keep; with_reducible assumption) | assumption | (focus ((repeat (first | with_reducible assumption | (with_reducible apply RowAt.le; rotate_left; with_reducible assumption) | (with_reducible apply RowB.le; rotate_left; with_reducible assumption))); done)))) | (with_reducible apply ex_side (a := (_, _)); (focus (with_reducible apply And.intro <;> (focus ((repeat (first | with_reducible assumption | (with_reducible apply RowAt.le; rotate_left; with_reducible assumption) | (with_reducible apply RowB.le; rotate_left; with_reducible assumption))); done))))))); (all_goals (conv => whnf)))
          refine ⟨n - (k + 1), by omega, k + 1, _, ⟨r6a, r6n, r6c⟩, E6, nthA [_, _, _, _, _, _, _, _, _, _, _, _, _, _, _, _, _, _, _, _, _, _, _, _, _, _, _, _, _, _, _, _, _, _, _, _, _, _, _, _, _, _, _, _, _, _], nthV [], rfl, ?_, by omega, g7, rfl⟩
          exact (wrap_in (by omega) (by omega)).trans (by omega)
      · have hjl := (List.getElem?_eq_some_iff.1 hrj).1
        have hy1 : L[j]? = some y.1 := by rw [hL, List.getElem?_map, hrj]; rfl
        cases oa with
        | none => have := hox.2.2.1 rfl; rw [this] at hy1; cases hy1
        | some ao =>
        obtain ⟨y0, y1⟩ := FracsAt.at hox (a := ao) rfl hy1
        (repeat' ((conv => whnf); (first | with_reducible apply And.intro | (with_reducible intro hh; first | (with_reducible have hx := NewRow.self hh; clear hx) | (with_reducible have hrow := Made.row hh; have hle := Made.le hh; have hmade := hh; clear hh) | (with_reducible have hrow := Fresh.rowS hh; have hle := Fresh.leS hh; have hfr := hh; clear hh) | (with_reducible have hx := Ext.self hh; clear hx) | (with_reducible have hx := SlV.self hh; clear hx) | (with_reducible have hx := Value.self hh; clear hx) | with_reducible cases hh | skip) | (with_reducible apply AllEq.mk; intro yy hq) | with_reducible apply trivial | with_reducible apply Exists.intro () | (with_reducible apply ex_side; (first | with_reducible assumption | with_reducible apply fracs1 | with_reducible apply fracs2 | with_reducible apply fracs3 | with_reducible apply spans1 | with_reducible apply spans2 | (with_reducible apply NewRow.keep; with_reducible assumption) | (with_reducible apply RowAt.keep; with_reducible assumption) | assumption | (focus ((repeat (first | with_reducible assumption | (with_reducible apply RowAt.le; rotate_left; with_reducible assumption) | (with_reducible apply RowB.le; rotate_left; with_reducible assumption))); done)))) | (with_reducible apply ex_side (a := (_, _)); (focus (with_reducible apply And.intro <;> (focus ((repeat (first | with_reducible assumption | (with_reducible apply RowAt.le; rotate_left; with_reducible assumption) | (with_reducible apply RowB.le; rotate_left; with_reducible assumption))); done))))))); (all_goals (conv => whnf)))
        all_goals try (exfalso; have := of_decide_eq_false (by assumption : decide ((j : Int) < (on : Int)) = false); omega)
        all_goals try exact Side.mk ⟨by omega, by omega⟩
        all_goals try exact Side.mk ⟨y.2, x.2⟩
        all_goals try with_reducible exact Side.mk rfl
        all_goals try exact Side.mk (fun _ _ h => h)
        · refine ⟨on - (j + 1), by omega, j + 1, _, nthA [_, _, _, _, _, _, _, _, _, _, _, _, _, _, _, _, _, _, _, _, _, _, _, _, _, _, _, _, _, _, _, _, _, _, _, _, _, _, _, _, _, _, _, _, _], nthV [], rfl, ?_, by omega, fun i z hi hz => ?_, rfl⟩
          · exact (wrap_in (by omega) (by omega)).trans (by omega)
          · by_cases hij : i < j
            · exact hv i z hij hz
            · obtain rfl : i = j := by omega
              rw [hrj] at hz
              cases hz
              exact of_decide_eq_true (by assumption : decide (cmpQ y.1 x.1 ≤ 0) = true)
        have hend : ∀ z, (srtV (d.take k))[j]? = some z → ¬ cmpQ z.1 x.1 ≤ 0 := fun z hz => by
          rw [hrj] at hz
          cases hz
          exact of_decide_eq_false (by assumption : decide (cmpQ y.1 x.1 ≤ 0) = false)
        · have g1 := Grow.fresh1 x.1 hh
          have hE1 := hh.le
          have hdrop := cells_row (part_drop (hox.le hh.le) j (by omega) hoc)
          refine ⟨([x.1].flatMap Q.cells, (L.drop j).flatMap Q.cells), Side.mk ⟨g1.own, hdrop, cells_ok _, by dsimp only; omega⟩, fun r2 E2 hp2 => ?_⟩
          have g2 := g1.app hp2
          have n2 := hp2.n
          dsimp only at n2
          clear hdrop g1
          obtain ⟨r2a, r2n, r2c⟩ := r2
          (repeat' ((conv => whnf); (first | with_reducible apply And.intro | (with_reducible intro hh; first | (with_reducible have hx := NewRow.self hh; clear hx) | (with_reducible have hrow := Made.row hh; have hle := Made.le hh; have hmade := hh; clear hh) | (with_reducible have hrow := Fresh.rowS hh; have hle := Fresh.leS hh; have hfr := hh; clear hh) | (with_reducible have hx := Ext.self hh; clear hx) | (with_reducible have hx := SlV.self hh; clear hx) | (with_reducible have hx := Value.self hh; clear hx) | with_reducible cases hh | skip) | (with_reducible apply AllEq.mk; intro yy hq) | with_reducible apply trivial | with_reducible apply Exists.intro () | (with_reducible apply ex_side; (first | with_reducible assumption | with_reducible apply fracs1 | with_reducible apply fracs2 | with_reducible apply fracs3 | with_reducible apply spans1 | with_reducible apply spans2 | (with_reducible apply NewRow.keep; with_reducible assumption) | (with_reducible apply RowAt.keep; with_reducible assumption) | assumption | (focus ((repeat (first | with_reducible assumption | (with_reducible apply RowAt.le; rotate_left; with_reducible assumption) | (with_reducible apply RowB.le; rotate_left; with_reducible assumption))); done)))) | (with_reducible apply ex_side (a := (_, _)); (focus (with_reducible apply And.intro <;> (focus ((repeat (first | with_reducible assumption | (with_reducible apply RowAt.le; rotate_left; with_reducible assumption) | (with_reducible apply RowB.le; rotate_left; with_reducible assumption))); done))))))); (all_goals (conv => whnf)))
          all_goals try exact Side.mk ⟨by omega, by omega, by omega⟩
          (all_goals (try dsimp only [Q.eta, Sn.eta, SlV.eta] at *)); (all_goals (first | exact Side.mk trivial | with_reducible exact Side.mk rfl | exact Side.mk (fun _ _ h => h) | exact Side.mk (Made.le (by assumption)) | refine Side.mk ?_ | refine Don.mk ?_ | skip))
          have g3 := Grow.fresh0 (c := 2) (en := Q.cells) hh
          have htake := cells_row (part_take0 (hox.le (Ext.le_trans (Ext.le_trans hE1 hp2.le) hh.le)) j (by omega) hoc)
          have hE2 := hh.le
          refine ⟨([], (L.take j).flatMap Q.cells), Side.mk ⟨g3.own, htake, cells_ok _, by dsimp only; omega⟩, fun r5 E5 hp5 => ?_⟩
          have g5 := g3.app hp5
          have n5 := hp5.n
          dsimp only at n5
          clear htake g3
          obtain ⟨r5a, r5n, r5c⟩ := r5
          (repeat' ((conv => whnf); (first | with_reducible apply And.intro | (with_reducible intro hh; first | (with_reducible have hx := NewRow.self hh; clear hx) | (with_reducible have hrow := Made.row hh; have hle := Made.le hh; have hmade := hh; clear hh) | (with_reducible have hrow := Fresh.rowS hh; have hle := Fresh.leS hh; have hfr := hh; clear hh) | (with_reducible have hx := Ext.self hh; clear hx) | (with_reducible have hx := SlV.self hh; clear hx) | (with_reducible have hx := Value.self hh; clear hx) | with_reducible cases hh | skip) | (with_reducible apply AllEq.mk; intro yy hq) | with_reducible apply trivial | with_reducible apply Exists.intro () | (with_reducible apply ex_side; (first | with_reducible assumption | with_reducible apply fracs1 | with_reducible apply fracs2 | with_reducible apply fracs3 | with_reducible apply spans1 | with_reducible apply spans2 | (with_reducible apply NewRow.keep; with_reducible assumption) | (with_reducible apply RowAt.keep; with_reducible assumption) | assumption | (focus ((repeat (first | with_reducible assumption | (with_reducible apply RowAt.le; rotate_left; with_reducible assumption) | (with_reducible apply RowB.le; rotate_left; with_reducible assumption))); done)))) | (with_reducible apply ex_side (a := (_, _)); (focus (with_reducible apply And.intro <;> (focus ((repeat (first | with_reducible assumption | (with_reducible apply RowAt.le; rotate_left; with_reducible assumption) | (with_reducible apply RowB.le; rotate_left; with_reducible assumption))); done))))))); (all_goals (conv => whnf)))
          (all_goals (try dsimp only [Q.eta, Sn.eta, SlV.eta] at *)); (all_goals (first | exact Side.mk trivial | with_reducible exact Side.mk rfl | exact Side.mk (fun _ _ h => h) | exact Side.mk (Made.le (by assumption)) | refine Side.mk ?_ | refine Don.mk ?_ | skip))
          have hr2 := cells_row (g2.done.row.le (Ext.le_trans hE2 hp5.le))
          refine ⟨(([] ++ L.take j).flatMap Q.cells, ([x.1] ++ L.drop j).flatMap Q.cells), Side.mk ⟨g5.own, hr2, cells_ok _, by dsimp only; omega⟩, fun r6 E6 hp6 => ?_⟩
          have g6 := g5.app hp6
          have hins : (srtV (d.take (k + 1))).map (·.1) = ([] ++ L.take j) ++ ([x.1] ++ L.drop j) := by
            rw [htk, srtV_push, insV_at x (srtV (d.take k)) j (by omega) hv hend]
            simp [hL, List.map_take, List.map_drop]
          have g7 := g6.before (hg.keeps.trans g2.keeps)
          rw [← hins] at g7
          obtain ⟨r6a, r6n, r6c⟩ := r6
          (repeat' ((conv => whnf); (first | with_reducible apply And.intro | (with_reducible intro hh; first | (with_reducible have hx := NewRow.self hh; clear hx) | (with_reducible have hrow := Made.row hh; have hle := Made.le hh; have hmade := hh; clear hh) | (with_reducible have hrow := Fresh.rowS hh; have hle := Fresh.leS hh; have hfr := hh; clear hh) | (with_reducible have hx := Ext.self hh; clear hx) | (with_reducible have hx := SlV.self hh; clear hx) | (with_reducible have hx := Value.self hh; clear hx) | with_reducible cases hh | skip) | (with_reducible apply AllEq.mk; intro yy hq) | with_reducible apply trivial | with_reducible apply Exists.intro () | (with_reducible apply ex_side; (first | with_reducible assumption | with_reducible apply fracs1 | with_reducible apply fracs2 | with_reducible apply fracs3 | with_reducible apply spans1 | with_reducible apply spans2 | (with_reducible apply NewRow.keep; with_reducible assumption) | (with_reducible apply RowAt.keep; with_reducible assumption) | assumption | (focus ((repeat (first | with_reducible assumption | (with_reducible apply RowAt.le; rotate_left; with_reducible assumption) | (with_reducible apply RowB.le; rotate_left; with_reducible assumption))); done)))) | (with_reducible apply ex_side (a := (_, _)); (focus (with_reducible apply And.intro <;> (focus ((repeat (first | with_reducible assumption | (with_reducible apply RowAt.le; rotate_left; with_reducible assumption) | (with_reducible apply RowB.le; rotate_left; with_reducible assumption))); done))))))); (all_goals (conv => whnf)))
          refine ⟨n - (k + 1), by omega, k + 1, _, ⟨r6a, r6n, r6c⟩, E6, nthA [_, _, _, _, _, _, _, _, _, _, _, _, _, _, _, _, _, _, _, _, _, _, _, _, _, _, _, _, _, _, _, _, _, _, _, _, _, _, _, _, _, _, _, _, _, _], nthV [], rfl, ?_, by omega, g7, rfl⟩
          exact (wrap_in (by omega) (by omega)).trans (by omega)
    · exfalso
      have := of_decide_eq_false hh
      omega

end Go.Proofs.Ytoolfecbiifplaa
