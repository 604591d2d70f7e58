/- Contract of the library's function that finds the play; no condition. -/
import Derived.Test.YtjibkphhlflpeaaAb
import Derived.Test.YtjibkphhlflpeaaC1
import Derived.Test.YtjibkphhlflpeaaC2
import Derived.Test.YtjibkphhlflpeaaC3
import Derived.Test.YtjibkphhlflpeaaC4
import Derived.Test.YtjibkphhlflpeaaC5
import Derived.Test.YtjibkphhlflpeaaCL
import Derived.Test.YtjibkphhlflpeaaC6
import Derived.Test.YtjibkphhlflpeaaC7
import Derived.Test.YtjibkphhlflpeaaC8
import Derived.Test.YtjibkphhlflpeaaC9
import Derived.Test.YtjibkphhlflpeaaCO
import Derived.Test.YtjibkphhlflpeaaC10
import Derived.Test.YtjibkphhlflpeaaC11
import Derived.Test.YtjibkphhlflpeaaC12
import Derived.Test.YtjibkphhlflpeaaC14
import Derived.Test.YtjibkphhlflpeaaC27
import Derived.Test.YtjibkphhlflpeaaCN
import Derived.Test.YtjibkphhlflpeaaC35
import Derived.Test.YtjibkphhlflpeaaC37
import Derived.Test.YtjibkphhlflpeaaProg
set_option linter.unusedVariables false
set_option linter.unusedSimpArgs false
namespace Go.Proofs.Ytjibkphhlflpeaa
open Ab

theorem ne_of_bne {x y : Int} (h : (x != y) = true) : x ≠ y := by simpa using h
theorem eq_of_bne {x y : Int} (h : (x != y) = false) : x = y := by simpa using h
abbrev plSp : Sp := .nf XIL (fun _ (_ : Unit) _ => True) (fun x _ (_ : Unit) => RI (plR x.1 x.2.1 x.2.2.1)) (fun _ _ _ _ _ => True)

set_option maxHeartbeats 2000000 in
set_option maxRecDepth 100000 in
theorem pl_ok : Sp.ok Try.prog 8 plSp := by
  refine Sp.nf_ok (T := ⟨[(16, spinVSp), (17, withinSp), (18, untPSp)], [10]⟩) follows eqok0 ⟨enters Try.func16 rfl rfl, spinV_ok, enters Try.func17 rfl rfl, within_ok, enters Try.func18 rfl rfl, untP_ok, trivial⟩ [] Try.func8 rfl (by kernel_rfl) _ _ _ _ fun x l E hp => ?_
  obtain ⟨⟨⟨ma, mb⟩, mn, ⟨mc, md⟩⟩, ⟨x1, ⟨x2, x3⟩⟩, n, u⟩ := x
  (repeat' ((conv => whnf); (first | with_reducible apply And.intro | (with_reducible intro hh; first | (with_reducible have hx := NewRow.self hh; clear hx) | (with_reducible have hrow := Made.row hh; have hle := Made.le hh; have hmade := hh; clear hh) | (with_reducible have hrow := Fresh.rowS hh; have hle := Fresh.leS hh; have hfr := hh; clear hh) | (with_reducible have hx := Ext.self hh; clear hx) | (with_reducible have hx := SlV.self hh; clear hx) | (with_reducible have hx := Value.self hh; clear hx) | with_reducible cases hh | skip) | (with_reducible apply AllEq.mk; intro yy hq) | with_reducible apply trivial | with_reducible apply Exists.intro () | (with_reducible apply ex_side; (first | with_reducible assumption | with_reducible apply fracs1 | with_reducible apply fracs2 | with_reducible apply fracs3 | with_reducible apply spans1 | with_reducible apply spans2 | (with_reducible apply NewRow.keep; with_reducible assumption) | (with_reducible apply RowAt.keep; with_reducible assumption) | assumption | (focus ((repeat (first | with_reducible assumption | (with_reducible apply RowAt.le; rotate_left; with_reducible assumption) | (with_reducible apply RowB.le; rotate_left; with_reducible assumption))); done)))) | (with_reducible apply ex_side (a := (_, _)); (focus (with_reducible apply And.intro <;> (focus ((repeat (first | with_reducible assumption | (with_reducible apply RowAt.le; rotate_left; with_reducible assumption) | (with_reducible apply RowB.le; rotate_left; with_reducible assumption))); done))))))); (all_goals (conv => whnf)))
  (all_goals (try dsimp only [Q.eta, Sn.eta, SlV.eta] at *)); (all_goals (first | exact Side.mk trivial | with_reducible exact Side.mk rfl | exact Side.mk (fun _ _ h => h) | exact Side.mk (Made.le (by assumption)) | refine Side.mk ?_ | refine Don.mk ?_ | skip))
  all_goals try (rw [plR_1 (not_t hh)]; exact ⟨(), rfl, trivial⟩)
  all_goals have hx := not_f (by assumption : (!okX ⟨⟨ma, mb⟩, mn, ⟨mc, md⟩⟩ ⟨x1, ⟨x2, x3⟩⟩) = false)
  all_goals try (rw [plR_2 hx (not_t hh)]; exact ⟨(), rfl, trivial⟩)
  all_goals have hw := not_f (by assumption : (!withinB n 0 10000) = false)
  all_goals have hwi := within_iff.1 hw
  have e0 : hh.to ⟨hh.b, 0, none⟩ = some (.int .i64 1) := hh.at_ 0
  have e1 : hh.to ⟨hh.b, 1, none⟩ = some (.int .i64 (-1)) := hh.at_ 1
  revert e0 e1
  generalize hh.to = E1
  generalize hh.b = rb
  intro e0 e1
  clear hh
  obtain ⟨N, rfl⟩ : ∃ N : Nat, n = N := ⟨n.toNat, by omega⟩
  generalize hM : (⟨⟨ma, mb⟩, mn, ⟨mc, md⟩⟩ : Scr) = M at hx
  refine ⟨fun m s => ∃ (k : Nat) (i : Int) (y : Spn) (E' : Ext) (wg : Nat → AV) (ww : Nat → Value), m = 2 - k ∧ i = (k : Int) ∧ okMX M y ∧ E' ⟨rb, 0, none⟩ = some (.int .i64 1) ∧ E' ⟨rb, 1, none⟩ = some (.int .i64 (-1)) ∧ ((k = 0 ∧ y = ⟨x1, ⟨x2, x3⟩⟩) ∨ (k = 1 ∧ (movR M 1 N 1 ⟨x1, ⟨x2, x3⟩⟩).2.2 = 0 ∧ y = (movR M 1 N 1 ⟨x1, ⟨x2, x3⟩⟩).1)) ∧ s = ⟨[.v (ww 0), .v (ww 1), .v (.int .i64 (N : Int)), .p 0 0, .p 1 0, .v (ww 2), .v (ww 3), .v (ww 4), .v (ww 5), wg 0, wg 1, wg 2, wg 3, wg 4, .v (ww 6), .v (ww 7), .v (ww 8), .v (ww 9), .v (ww 10), .v (ww 11), .v (ww 12), .v (ww 13), .v (ww 14), .v (.slice (some ⟨rb, 0, none⟩) 2 2), .v (.int .i64 2), .v (.int .i64 i), wg 5, wg 6, wg 7, wg 8, wg 9, wg 10, wg 11, wg 12, wg 13, wg 14, wg 15, wg 16, wg 17, wg 18, wg 19, wg 20, wg 21, .v (ww 15), wg 22, wg 23, wg 24, .v (ww 16), .v (ww 17), wg 25], [([.int .i64 ma, .int .i64 mb, .int .i64 mn, .int .i64 mc, .int .i64 md], 32), ([.int .i64 y.turned, .int .i64 y.pos.p, .int .i64 y.pos.q], 35)], E'⟩, ⟨_, 0, _, ⟨x1, ⟨x2, x3⟩⟩, E1, nthA [_, _, _, _, _, _, _, _, _, _, _, _, _, _, _, _, _, _, _, _, _, _, _, _, _, _], nthV [_, _, _, _, _, _, _, _, _, _, _, _, _, _, _, _, _, _], rfl, rfl, okX_mx hx, e0, e1, .inl ⟨rfl, rfl⟩, rfl⟩, ?_⟩
  rintro m s ⟨k, i, y, E', wg, ww, rfl, rfl, hy, g0, g1, hk, rfl⟩
  subst hM
  obtain ⟨y1, ⟨y2, y3⟩⟩ := y
  rcases hk with ⟨rfl, hyx⟩ | ⟨rfl, h3, hyx⟩
  · have a0 : E' ((⟨rb, 0, none⟩ : Addr).add (((0 : Nat) : Int).toNat * 1)) = some (.int .i64 1) := by rw [addr_add]; exact g0
    (repeat' ((conv => whnf); (first | with_reducible apply And.intro | (with_reducible intro hh; first | (with_reducible have hx := NewRow.self hh; clear hx) | (with_reducible have hrow := Made.row hh; have hle := Made.le hh; have hmade := hh; clear hh) | (with_reducible have hrow := Fresh.rowS hh; have hle := Fresh.leS hh; have hfr := hh; clear hh) | (with_reducible have hx := Ext.self hh; clear hx) | (with_reducible have hx := SlV.self hh; clear hx) | (with_reducible have hx := Value.self hh; clear hx) | with_reducible cases hh | skip) | (with_reducible apply AllEq.mk; intro yy hq) | with_reducible apply trivial | with_reducible apply Exists.intro () | (with_reducible apply ex_side; (first | with_reducible assumption | with_reducible apply fracs1 | with_reducible apply fracs2 | with_reducible apply fracs3 | with_reducible apply spans1 | with_reducible apply spans2 | (with_reducible apply NewRow.keep; with_reducible assumption) | (with_reducible apply RowAt.keep; with_reducible assumption) | assumption | (focus ((repeat (first | with_reducible assumption | (with_reducible apply RowAt.le; rotate_left; with_reducible assumption) | (with_reducible apply RowB.le; rotate_left; with_reducible assumption))); done)))) | (with_reducible apply ex_side (a := (_, _)); (focus (with_reducible apply And.intro <;> (focus ((repeat (first | with_reducible assumption | (with_reducible apply RowAt.le; rotate_left; with_reducible assumption) | (with_reducible apply RowB.le; rotate_left; with_reducible assumption))); done))))))); (all_goals (conv => whnf)))
    (all_goals (try dsimp only [Q.eta, Sn.eta, SlV.eta] at *)); (all_goals (first | exact Side.mk trivial | with_reducible exact Side.mk rfl | exact Side.mk (fun _ _ h => h) | exact Side.mk (Made.le (by assumption)) | refine Side.mk ?_ | refine Don.mk ?_ | skip))
    all_goals first
      | exact ⟨by decide, by decide⟩
      | exact ⟨rfl, _, new_own hh, Nat.le_refl 2⟩
      | (exfalso; exact absurd hh (by decide))
      | skip
    have hP : PtrAt Q.cells ⟨hh.b, 0, none⟩ ⟨y2, y3⟩ (hh.to.upd hh.b 0 [.int .i64 y2, .int .i64 y3]) := by
      intro j v hj
      rw [addr_add, Nat.zero_add]
      match j, hj with
      | 0, hj => cases hj; rw [upd_in (Nat.le_refl _) (by simp)]; rfl
      | 1, hj => cases hj; rw [upd_in (by omega) (by simp)]; rfl
    have g0' : (hh.to.upd hh.b 0 [.int .i64 y2, .int .i64 y3]) ⟨rb, 0, none⟩ = some (.int .i64 1) := by rw [upd_other (hh.fresh _ _ g0)]; exact hh.le _ _ g0
    have g1' : (hh.to.upd hh.b 0 [.int .i64 y2, .int .i64 y3]) ⟨rb, 1, none⟩ = some (.int .i64 (-1)) := by rw [upd_other (hh.fresh _ _ g1)]; exact hh.le _ _ g1
    have hum := until_mov (m := ⟨⟨ma, mb⟩, mn, ⟨mc, md⟩⟩) (b := 1) N 0 ⟨y1, ⟨y2, y3⟩⟩
    rw [List.map_toArray]
    rw [List.map_toArray]
    conv => whnf
    have hN : (N : Int).toNat = N := Int.toNat_natCast N
    have c2 : (untilR ⟨⟨ma, mb⟩, mn, ⟨mc, md⟩⟩ (1) (stopP ⟨y2, y3⟩) (N : Int).toNat 0 ⟨y1, ⟨y2, y3⟩⟩).2.2 = (movR ⟨⟨ma, mb⟩, mn, ⟨mc, md⟩⟩ (1) N 1 ⟨y1, ⟨y2, y3⟩⟩).2.2 := by rw [hN, hum]; rfl
    have c1 : (untilR ⟨⟨ma, mb⟩, mn, ⟨mc, md⟩⟩ (1) (stopP ⟨y2, y3⟩) (N : Int).toNat 0 ⟨y1, ⟨y2, y3⟩⟩).1 = (movR ⟨⟨ma, mb⟩, mn, ⟨mc, md⟩⟩ (1) N 1 ⟨y1, ⟨y2, y3⟩⟩).1 := by rw [hN, hum]; rfl
    have c3 : (untilR ⟨⟨ma, mb⟩, mn, ⟨mc, md⟩⟩ (1) (stopP ⟨y2, y3⟩) (N : Int).toNat 0 ⟨y1, ⟨y2, y3⟩⟩).2.1 = (movR ⟨⟨ma, mb⟩, mn, ⟨mc, md⟩⟩ (1) N 1 ⟨y1, ⟨y2, y3⟩⟩).2.1 * (1) := by rw [hN, hum]; rfl
    refine ⟨⟨y2, y3⟩, Side.mk ⟨hy, hP, .inr (.inr rfl), hwi⟩, ?_⟩
    (repeat' ((conv => whnf); (first | with_reducible apply And.intro | (with_reducible intro hh; first | (with_reducible have hx := NewRow.self hh; clear hx) | (with_reducible have hrow := Made.row hh; have hle := Made.le hh; have hmade := hh; clear hh) | (with_reducible have hrow := Fresh.rowS hh; have hle := Fresh.leS hh; have hfr := hh; clear hh) | (with_reducible have hx := Ext.self hh; clear hx) | (with_reducible have hx := SlV.self hh; clear hx) | (with_reducible have hx := Value.self hh; clear hx) | with_reducible cases hh | skip) | (with_reducible apply AllEq.mk; intro yy hq) | with_reducible apply trivial | with_reducible apply Exists.intro () | (with_reducible apply ex_side; (first | with_reducible assumption | with_reducible apply fracs1 | with_reducible apply fracs2 | with_reducible apply fracs3 | with_reducible apply spans1 | with_reducible apply spans2 | (with_reducible apply NewRow.keep; with_reducible assumption) | (with_reducible apply RowAt.keep; with_reducible assumption) | assumption | (focus ((repeat (first | with_reducible assumption | (with_reducible apply RowAt.le; rotate_left; with_reducible assumption) | (with_reducible apply RowB.le; rotate_left; with_reducible assumption))); done)))) | (with_reducible apply ex_side (a := (_, _)); (focus (with_reducible apply And.intro <;> (focus ((repeat (first | with_reducible assumption | (with_reducible apply RowAt.le; rotate_left; with_reducible assumption) | (with_reducible apply RowB.le; rotate_left; with_reducible assumption))); done))))))); (all_goals (conv => whnf)))
    (all_goals (try dsimp only [Q.eta, Sn.eta, SlV.eta] at *)); (all_goals (first | exact Side.mk trivial | with_reducible exact Side.mk rfl | exact Side.mk (fun _ _ h => h) | exact Side.mk (Made.le (by assumption)) | refine Side.mk ?_ | refine Don.mk ?_ | skip))
    all_goals cases hyx
    all_goals first
      | (rw [c2] at hh
         have h9 := ne_of_bne hh
         rw [c2, plR_3 hx hw (by rw [hN]; exact h9), hN]
         exact ⟨(), rfl, trivial⟩)
      | (exfalso; exact absurd (by assumption : decide ((1 : Int) < 0) = true) (by decide))
      | skip
    have h9 := eq_of_bne (by assumption : ((untilR ⟨⟨ma, mb⟩, mn, ⟨mc, md⟩⟩ (1) (stopP ⟨x2, x3⟩) (N : Int).toNat 0 ⟨x1, ⟨x2, x3⟩⟩).2.2 != 0) = false)
    rw [c2] at h9
    refine ⟨_, ?_, 1, _, _, _, nthA [_, _, _, _, _, _, _, _, _, _, _, _, _, _, _, _, _, _, _, _, _, _, _, _, _, _], nthV [_, _, _, _, _, _, _, _, _, _, _, _, _, _, _, _, _, _], rfl, by decide, by rw [c1]; exact mov_mx _ _ _ hy h9, g0', g1', .inr ⟨rfl, h9, c1⟩, rfl⟩
    decide
  · have a1 : E' ((⟨rb, 0, none⟩ : Addr).add (((1 : Nat) : Int).toNat * 1)) = some (.int .i64 (-1)) := by rw [addr_add]; exact g1
    (repeat' ((conv => whnf); (first | with_reducible apply And.intro | (with_reducible intro hh; first | (with_reducible have hx := NewRow.self hh; clear hx) | (with_reducible have hrow := Made.row hh; have hle := Made.le hh; have hmade := hh; clear hh) | (with_reducible have hrow := Fresh.rowS hh; have hle := Fresh.leS hh; have hfr := hh; clear hh) | (with_reducible have hx := Ext.self hh; clear hx) | (with_reducible have hx := SlV.self hh; clear hx) | (with_reducible have hx := Value.self hh; clear hx) | with_reducible cases hh | skip) | (with_reducible apply AllEq.mk; intro yy hq) | with_reducible apply trivial | with_reducible apply Exists.intro () | (with_reducible apply ex_side; (first | with_reducible assumption | with_reducible apply fracs1 | with_reducible apply fracs2 | with_reducible apply fracs3 | with_reducible apply spans1 | with_reducible apply spans2 | (with_reducible apply NewRow.keep; with_reducible assumption) | (with_reducible apply RowAt.keep; with_reducible assumption) | assumption | (focus ((repeat (first | with_reducible assumption | (with_reducible apply RowAt.le; rotate_left; with_reducible assumption) | (with_reducible apply RowB.le; rotate_left; with_reducible assumption))); done)))) | (with_reducible apply ex_side (a := (_, _)); (focus (with_reducible apply And.intro <;> (focus ((repeat (first | with_reducible assumption | (with_reducible apply RowAt.le; rotate_left; with_reducible assumption) | (with_reducible apply RowB.le; rotate_left; with_reducible assumption))); done))))))); (all_goals (conv => whnf)))
    (all_goals (try dsimp only [Q.eta, Sn.eta, SlV.eta] at *)); (all_goals (first | exact Side.mk trivial | with_reducible exact Side.mk rfl | exact Side.mk (fun _ _ h => h) | exact Side.mk (Made.le (by assumption)) | refine Side.mk ?_ | refine Don.mk ?_ | skip))
    all_goals first
      | exact ⟨by decide, by decide⟩
      | exact ⟨rfl, _, new_own hh, Nat.le_refl 2⟩
      | (exfalso; exact absurd hh (by decide))
      | skip
    have hP : PtrAt Q.cells ⟨hh.b, 0, none⟩ ⟨y2, y3⟩ (hh.to.upd hh.b 0 [.int .i64 y2, .int .i64 y3]) := by
      intro j v hj
      rw [addr_add, Nat.zero_add]
      match j, hj with
      | 0, hj => cases hj; rw [upd_in (Nat.le_refl _) (by simp)]; rfl
      | 1, hj => cases hj; rw [upd_in (by omega) (by simp)]; rfl
    have g0' : (hh.to.upd hh.b 0 [.int .i64 y2, .int .i64 y3]) ⟨rb, 0, none⟩ = some (.int .i64 1) := by rw [upd_other (hh.fresh _ _ g0)]; exact hh.le _ _ g0
    have g1' : (hh.to.upd hh.b 0 [.int .i64 y2, .int .i64 y3]) ⟨rb, 1, none⟩ = some (.int .i64 (-1)) := by rw [upd_other (hh.fresh _ _ g1)]; exact hh.le _ _ g1
    have hum := until_mov (m := ⟨⟨ma, mb⟩, mn, ⟨mc, md⟩⟩) (b := -1) N 0 ⟨y1, ⟨y2, y3⟩⟩
    rw [List.map_toArray]
    rw [List.map_toArray]
    conv => whnf
    have hN : (N : Int).toNat = N := Int.toNat_natCast N
    have c2 : (untilR ⟨⟨ma, mb⟩, mn, ⟨mc, md⟩⟩ (-1) (stopP ⟨y2, y3⟩) (N : Int).toNat 0 ⟨y1, ⟨y2, y3⟩⟩).2.2 = (movR ⟨⟨ma, mb⟩, mn, ⟨mc, md⟩⟩ (-1) N 1 ⟨y1, ⟨y2, y3⟩⟩).2.2 := by rw [hN, hum]; rfl
    have c1 : (untilR ⟨⟨ma, mb⟩, mn, ⟨mc, md⟩⟩ (-1) (stopP ⟨y2, y3⟩) (N : Int).toNat 0 ⟨y1, ⟨y2, y3⟩⟩).1 = (movR ⟨⟨ma, mb⟩, mn, ⟨mc, md⟩⟩ (-1) N 1 ⟨y1, ⟨y2, y3⟩⟩).1 := by rw [hN, hum]; rfl
    have c3 : (untilR ⟨⟨ma, mb⟩, mn, ⟨mc, md⟩⟩ (-1) (stopP ⟨y2, y3⟩) (N : Int).toNat 0 ⟨y1, ⟨y2, y3⟩⟩).2.1 = (movR ⟨⟨ma, mb⟩, mn, ⟨mc, md⟩⟩ (-1) N 1 ⟨y1, ⟨y2, y3⟩⟩).2.1 * (-1) := by rw [hN, hum]; rfl
    have d2 : (movR ⟨⟨ma, mb⟩, mn, ⟨mc, md⟩⟩ (-1) N 1 ⟨y1, ⟨y2, y3⟩⟩).2.2 = (movR ⟨⟨ma, mb⟩, mn, ⟨mc, md⟩⟩ (-1) N 1 (movR ⟨⟨ma, mb⟩, mn, ⟨mc, md⟩⟩ 1 N 1 ⟨x1, ⟨x2, x3⟩⟩).1).2.2 := by rw [hyx]
    have d3 : (movR ⟨⟨ma, mb⟩, mn, ⟨mc, md⟩⟩ (-1) N 1 ⟨y1, ⟨y2, y3⟩⟩).2.1 = (movR ⟨⟨ma, mb⟩, mn, ⟨mc, md⟩⟩ (-1) N 1 (movR ⟨⟨ma, mb⟩, mn, ⟨mc, md⟩⟩ 1 N 1 ⟨x1, ⟨x2, x3⟩⟩).1).2.1 := by rw [hyx]
    have hle := mov_le (m := ⟨⟨ma, mb⟩, mn, ⟨mc, md⟩⟩) (b := -1) N 1 (movR ⟨⟨ma, mb⟩, mn, ⟨mc, md⟩⟩ 1 N 1 ⟨x1, ⟨x2, x3⟩⟩).1 (by decide)
    refine ⟨⟨y2, y3⟩, Side.mk ⟨hy, hP, .inl rfl, hwi⟩, ?_⟩
    (repeat' ((conv => whnf); (first | with_reducible apply And.intro | (with_reducible intro hh; first | (with_reducible have hx := NewRow.self hh; clear hx) | (with_reducible have hrow := Made.row hh; have hle := Made.le hh; have hmade := hh; clear hh) | (with_reducible have hrow := Fresh.rowS hh; have hle := Fresh.leS hh; have hfr := hh; clear hh) | (with_reducible have hx := Ext.self hh; clear hx) | (with_reducible have hx := SlV.self hh; clear hx) | (with_reducible have hx := Value.self hh; clear hx) | with_reducible cases hh | skip) | (with_reducible apply AllEq.mk; intro yy hq) | with_reducible apply trivial | with_reducible apply Exists.intro () | (with_reducible apply ex_side; (first | with_reducible assumption | with_reducible apply fracs1 | with_reducible apply fracs2 | with_reducible apply fracs3 | with_reducible apply spans1 | with_reducible apply spans2 | (with_reducible apply NewRow.keep; with_reducible assumption) | (with_reducible apply RowAt.keep; with_reducible assumption) | assumption | (focus ((repeat (first | with_reducible assumption | (with_reducible apply RowAt.le; rotate_left; with_reducible assumption) | (with_reducible apply RowB.le; rotate_left; with_reducible assumption))); done)))) | (with_reducible apply ex_side (a := (_, _)); (focus (with_reducible apply And.intro <;> (focus ((repeat (first | with_reducible assumption | (with_reducible apply RowAt.le; rotate_left; with_reducible assumption) | (with_reducible apply RowB.le; rotate_left; with_reducible assumption))); done))))))); (all_goals (conv => whnf)))
    (all_goals (try dsimp only [Q.eta, Sn.eta, SlV.eta] at *)); (all_goals (first | exact Side.mk trivial | with_reducible exact Side.mk rfl | exact Side.mk (fun _ _ h => h) | exact Side.mk (Made.le (by assumption)) | refine Side.mk ?_ | refine Don.mk ?_ | skip))
    all_goals first
      | (rw [c2, d2] at hh
         have h9 := ne_of_bne hh
         rw [c2, d2, plR_4 hx hw (by rw [hN]; exact h3) (by rw [hN]; exact h9), hN]
         exact ⟨(), rfl, trivial⟩)
      | (exfalso; exact absurd (by assumption : decide ((-1 : Int) < 0) = false) (by decide))
      | skip
    have h9 := eq_of_bne (by assumption : ((untilR ⟨⟨ma, mb⟩, mn, ⟨mc, md⟩⟩ (-1) (stopP ⟨y2, y3⟩) (N : Int).toNat 0 ⟨y1, ⟨y2, y3⟩⟩).2.2 != 0) = false)
    rw [c2, d2] at h9
    rw [c3, d3, plR_5 hx hw (by rw [hN]; exact h3) (by rw [hN]; exact h9), hN]
    refine ⟨(), ?_, trivial⟩
    rw [wrap_in (by omega) (by omega)]
    exact congrArg (fun z => AV.v (.tuple #[.int .i64 z, .int .i64 0])) (by omega)

end Go.Proofs.Ytjibkphhlflpeaa
