/- Contracts of the functions that turn to a reading; no condition. -/
import Derived.Test.YtjibkphhlflpeaaAb
import Derived.Test.YtjibkphhlflpeaaC1
import Derived.Test.YtjibkphhlflpeaaC2
import Derived.Test.YtjibkphhlflpeaaC3
import Derived.Test.YtjibkphhlflpeaaC4
import Derived.Test.YtjibkphhlflpeaaC5
import Derived.Test.YtjibkphhlflpeaaCL
import Derived.Test.YtjibkphhlflpeaaC6
import Derived.Test.YtjibkphhlflpeaaC7
import Derived.Test.YtjibkphhlflpeaaC8
import Derived.Test.YtjibkphhlflpeaaC9
import Derived.Test.YtjibkphhlflpeaaCO
import Derived.Test.YtjibkphhlflpeaaC10
import Derived.Test.YtjibkphhlflpeaaC11
import Derived.Test.YtjibkphhlflpeaaC12
import Derived.Test.YtjibkphhlflpeaaCN
import Derived.Test.YtjibkphhlflpeaaC35
import Derived.Test.YtjibkphhlflpeaaProg
set_option linter.unusedVariables false
set_option linter.unusedSimpArgs false
namespace Go.Proofs.Ytjibkphhlflpeaa
open Ab

abbrev XQI : ArgL (Scr × Spn × Q × Int × Unit) := .cons scrA (.cons spnA (.cons .frac (.cons .int .nil)))
def toR (m : Scr) (x : Spn) (t : Q) (n : Int) : Spn × Int × Int := if okX m x && okQ t then (if withinB n 0 10000 then untilR m (cmpQ t x.pos) (stopT (cmpQ t x.pos, t)) n.toNat 0 x else (X0, 0, 2)) else (X0, 0, 1)
theorem toR_1 {m : Scr} {x : Spn} {t : Q} {n : Int} (h : (okX m x && okQ t) = false) : toR m x t n = (X0, 0, 1) := by unfold toR; rw [if_neg (by simp [h])]
theorem toR_2 {m : Scr} {x : Spn} {t : Q} {n : Int} (h : (okX m x && okQ t) = true) (h2 : withinB n 0 10000 = false) : toR m x t n = (X0, 0, 2) := by unfold toR; rw [if_pos h, if_neg (by simp [h2])]
theorem toR_3 {m : Scr} {x : Spn} {t : Q} {n : Int} (h : (okX m x && okQ t) = true) (h2 : withinB n 0 10000 = true) : toR m x t n = untilR m (cmpQ t x.pos) (stopT (cmpQ t x.pos, t)) n.toNat 0 x := by unfold toR; rw [if_pos h, if_pos h2]
abbrev toSp : Sp := .nf XQI (fun _ (_ : Unit) _ => True) (fun x _ (_ : Unit) => RT (toR x.1 x.2.1 x.2.2.1 x.2.2.2.1)) (fun _ _ _ _ _ => True)
set_option maxHeartbeats 2000000 in
set_option maxRecDepth 100000 in
theorem to_ok : Sp.ok Try.prog 11 toSp := by
  refine Sp.nf_ok (T := ⟨[(16, spinVSp), (23, validSp), (17, withinSp), (24, cmpSp), (18, untTSp)], [11, 6]⟩) follows eqok0 ⟨enters Try.func16 rfl rfl, spinV_ok, enters Try.func23 rfl rfl, valid_ok, enters Try.func17 rfl rfl, within_ok, enters Try.func24 rfl rfl, cmp_ok, enters Try.func18 rfl rfl, untT_ok, trivial⟩ [] Try.func11 rfl (by kernel_rfl) _ _ _ _ fun x l E hp => ?_
  obtain ⟨⟨⟨ma, mb⟩, mn, ⟨mc, md⟩⟩, ⟨x1, ⟨x2, x3⟩⟩, ⟨t1, t2⟩, n, u⟩ := x
  by_cases hx : okX ⟨⟨ma, mb⟩, mn, ⟨mc, md⟩⟩ ⟨x1, ⟨x2, x3⟩⟩ = true
  · (repeat' ((conv => whnf); (first | with_reducible apply And.intro | (with_reducible intro hh; first | (with_reducible have hx := NewRow.self hh; clear hx) | (with_reducible have hrow := Made.row hh; have hle := Made.le hh; have hmade := hh; clear hh) | (with_reducible have hrow := Fresh.rowS hh; have hle := Fresh.leS hh; have hfr := hh; clear hh) | (with_reducible have hx := Ext.self hh; clear hx) | (with_reducible have hx := SlV.self hh; clear hx) | (with_reducible have hx := Value.self hh; clear hx) | with_reducible cases hh | skip) | (with_reducible apply AllEq.mk; intro yy hq) | with_reducible apply trivial | with_reducible apply Exists.intro () | (with_reducible apply ex_side; (first | with_reducible assumption | with_reducible apply fracs1 | with_reducible apply fracs2 | with_reducible apply fracs3 | with_reducible apply spans1 | with_reducible apply spans2 | (with_reducible apply NewRow.keep; with_reducible assumption) | (with_reducible apply RowAt.keep; with_reducible assumption) | assumption | (focus ((repeat (first | with_reducible assumption | (with_reducible apply RowAt.le; rotate_left; with_reducible assumption) | (with_reducible apply RowB.le; rotate_left; with_reducible assumption))); done)))) | (with_reducible apply ex_side (a := (_, _)); (focus (with_reducible apply And.intro <;> (focus ((repeat (first | with_reducible assumption | (with_reducible apply RowAt.le; rotate_left; with_reducible assumption) | (with_reducible apply RowB.le; rotate_left; with_reducible assumption))); done))))))); (all_goals (conv => whnf)))
    (all_goals (try dsimp only [Q.eta, Sn.eta, SlV.eta] at *)); (all_goals (first | exact Side.mk trivial | with_reducible exact Side.mk rfl | exact Side.mk (fun _ _ h => h) | exact Side.mk (Made.le (by assumption)) | refine Side.mk ?_ | refine Don.mk ?_ | skip))
    all_goals try (exfalso; rw [hx] at hh; cases hh; done)
    rename_i r
    clear hh
    have e0 : r.to ((⟨r.b, 0, none⟩ : Addr).add 0) = some (.int .i64 t1) := by rw [addr_add]; exact r.at_ 0
    have e1 : r.to ((⟨r.b, 0, none⟩ : Addr).add (0 + 1)) = some (.int .i64 t2) := by rw [addr_add]; exact r.at_ 1
    have hmx := okX_mx hx
    (repeat' ((conv => whnf); (first | with_reducible apply And.intro | (with_reducible intro hh; first | (with_reducible have hx := NewRow.self hh; clear hx) | (with_reducible have hrow := Made.row hh; have hle := Made.le hh; have hmade := hh; clear hh) | (with_reducible have hrow := Fresh.rowS hh; have hle := Fresh.leS hh; have hfr := hh; clear hh) | (with_reducible have hx := Ext.self hh; clear hx) | (with_reducible have hx := SlV.self hh; clear hx) | (with_reducible have hx := Value.self hh; clear hx) | with_reducible cases hh | skip) | (with_reducible apply AllEq.mk; intro yy hq) | with_reducible apply trivial | with_reducible apply Exists.intro () | (with_reducible apply ex_side; (first | with_reducible assumption | with_reducible apply fracs1 | with_reducible apply fracs2 | with_reducible apply fracs3 | with_reducible apply spans1 | with_reducible apply spans2 | (with_reducible apply NewRow.keep; with_reducible assumption) | (with_reducible apply RowAt.keep; with_reducible assumption) | assumption | (focus ((repeat (first | with_reducible assumption | (with_reducible apply RowAt.le; rotate_left; with_reducible assumption) | (with_reducible apply RowB.le; rotate_left; with_reducible assumption))); done)))) | (with_reducible apply ex_side (a := (_, _)); (focus (with_reducible apply And.intro <;> (focus ((repeat (first | with_reducible assumption | (with_reducible apply RowAt.le; rotate_left; with_reducible assumption) | (with_reducible apply RowB.le; rotate_left; with_reducible assumption))); done))))))); (all_goals (conv => whnf)))
    (all_goals (try dsimp only [Q.eta, Sn.eta, SlV.eta] at *)); (all_goals (first | exact Side.mk trivial | with_reducible exact Side.mk rfl | exact Side.mk (fun _ _ h => h) | exact Side.mk (Made.le (by assumption)) | refine Side.mk ?_ | refine Don.mk ?_ | skip))
    all_goals try (have h9 := not_t hh; rw [toR_1 (by rw [hx, h9]; rfl)]; exact ⟨(), rfl, trivial⟩)
    all_goals have ht := not_f (by assumption : (!okQ ⟨t1, t2⟩) = false)
    all_goals have hv : (okX ⟨⟨ma, mb⟩, mn, ⟨mc, md⟩⟩ ⟨x1, ⟨x2, x3⟩⟩ && okQ ⟨t1, t2⟩) = true := by rw [hx, ht]; rfl
    all_goals try (have h9 := not_t hh; rw [toR_2 hv h9]; exact ⟨(), rfl, trivial⟩)
    all_goals have hw := not_f (by assumption : (!withinB n 0 10000) = false)
    all_goals first
      | exact ⟨ht, hmx.2.2⟩
      | exact ⟨rfl, _, new_own hh, Nat.le_refl 1⟩
      | skip
    have hwi := within_iff.1 hw
    have hne : r.b ≠ hh.b := fun e => by have := hh.fresho; rw [← e, new_own r] at this; cases this
    have g0 : (hh.to.upd hh.b 0 [.int .i64 (cmpQ ⟨t1, t2⟩ ⟨x2, x3⟩)]) ⟨hh.b, 0, none⟩ = some (.int .i64 (cmpQ ⟨t1, t2⟩ ⟨x2, x3⟩)) := by
      rw [upd_in (Nat.le_refl _) (by simp)]; rfl
    have hP : PtrAt Q.cells ⟨r.b, 0, none⟩ ⟨t1, t2⟩ (hh.to.upd hh.b 0 [.int .i64 (cmpQ ⟨t1, t2⟩ ⟨x2, x3⟩)]) := by
      intro j v hj
      rw [upd_other (by rw [addr_add]; exact hne)]
      match j, hj with
      | 0, hj => cases hj; exact hh.le _ _ e0
      | 1, hj => cases hj; exact hh.le _ _ e1
    refine ⟨_, Side.mk g0, ?_⟩
    conv => whnf
    rw [List.map_toArray]
    rw [List.map_toArray]
    conv => whnf
    refine ⟨(cmpQ ⟨t1, t2⟩ ⟨x2, x3⟩, ⟨t1, t2⟩), Side.mk ⟨hmx, g0, hP, ht, cmp_sg _ _, cmp_sg _ _, hwi.1, hwi.2⟩, ?_⟩
    (repeat' ((conv => whnf); (first | with_reducible apply And.intro | (with_reducible intro hh; first | (with_reducible have hx := NewRow.self hh; clear hx) | (with_reducible have hrow := Made.row hh; have hle := Made.le hh; have hmade := hh; clear hh) | (with_reducible have hrow := Fresh.rowS hh; have hle := Fresh.leS hh; have hfr := hh; clear hh) | (with_reducible have hx := Ext.self hh; clear hx) | (with_reducible have hx := SlV.self hh; clear hx) | (with_reducible have hx := Value.self hh; clear hx) | with_reducible cases hh | skip) | (with_reducible apply AllEq.mk; intro yy hq) | with_reducible apply trivial | with_reducible apply Exists.intro () | (with_reducible apply ex_side; (first | with_reducible assumption | with_reducible apply fracs1 | with_reducible apply fracs2 | with_reducible apply fracs3 | with_reducible apply spans1 | with_reducible apply spans2 | (with_reducible apply NewRow.keep; with_reducible assumption) | (with_reducible apply RowAt.keep; with_reducible assumption) | assumption | (focus ((repeat (first | with_reducible assumption | (with_reducible apply RowAt.le; rotate_left; with_reducible assumption) | (with_reducible apply RowB.le; rotate_left; with_reducible assumption))); done)))) | (with_reducible apply ex_side (a := (_, _)); (focus (with_reducible apply And.intro <;> (focus ((repeat (first | with_reducible assumption | (with_reducible apply RowAt.le; rotate_left; with_reducible assumption) | (with_reducible apply RowB.le; rotate_left; with_reducible assumption))); done))))))); (all_goals (conv => whnf)))
    (all_goals (try dsimp only [Q.eta, Sn.eta, SlV.eta] at *)); (all_goals (first | exact Side.mk trivial | with_reducible exact Side.mk rfl | exact Side.mk (fun _ _ h => h) | exact Side.mk (Made.le (by assumption)) | refine Side.mk ?_ | refine Don.mk ?_ | skip))
    rw [toR_3 hv hw]
    exact ⟨(), rfl, trivial⟩
  · have hx0 : okX ⟨⟨ma, mb⟩, mn, ⟨mc, md⟩⟩ ⟨x1, ⟨x2, x3⟩⟩ = false := by simpa using hx
    have hv0 : (okX ⟨⟨ma, mb⟩, mn, ⟨mc, md⟩⟩ ⟨x1, ⟨x2, x3⟩⟩ && okQ ⟨t1, t2⟩) = false := by rw [hx0]; rfl
    (repeat' ((conv => whnf); (first | with_reducible apply And.intro | (with_reducible intro hh; first | (with_reducible have hx := NewRow.self hh; clear hx) | (with_reducible have hrow := Made.row hh; have hle := Made.le hh; have hmade := hh; clear hh) | (with_reducible have hrow := Fresh.rowS hh; have hle := Fresh.leS hh; have hfr := hh; clear hh) | (with_reducible have hx := Ext.self hh; clear hx) | (with_reducible have hx := SlV.self hh; clear hx) | (with_reducible have hx := Value.self hh; clear hx) | with_reducible cases hh | skip) | (with_reducible apply AllEq.mk; intro yy hq) | with_reducible apply trivial | with_reducible apply Exists.intro () | (with_reducible apply ex_side; (first | with_reducible assumption | with_reducible apply fracs1 | with_reducible apply fracs2 | with_reducible apply fracs3 | with_reducible apply spans1 | with_reducible apply spans2 | (with_reducible apply NewRow.keep; with_reducible assumption) | (with_reducible apply RowAt.keep; with_reducible assumption) | assumption | (focus ((repeat (first | with_reducible assumption | (with_reducible apply RowAt.le; rotate_left; with_reducible assumption) | (with_reducible apply RowB.le; rotate_left; with_reducible assumption))); done)))) | (with_reducible apply ex_side (a := (_, _)); (focus (with_reducible apply And.intro <;> (focus ((repeat (first | with_reducible assumption | (with_reducible apply RowAt.le; rotate_left; with_reducible assumption) | (with_reducible apply RowB.le; rotate_left; with_reducible assumption))); done))))))); (all_goals (conv => whnf)))
    (all_goals (try dsimp only [Q.eta, Sn.eta, SlV.eta] at *)); (all_goals (first | exact Side.mk trivial | with_reducible exact Side.mk rfl | exact Side.mk (fun _ _ h => h) | exact Side.mk (Made.le (by assumption)) | refine Side.mk ?_ | refine Don.mk ?_ | skip))
    all_goals first
      | (exfalso; have h9 := not_f hh; exact hx h9)
      | (rw [toR_1 hv0]; exact ⟨(), rfl, trivial⟩)
theorem stop_iff {sg : Int} {t : Q} {y : Spn} (h : Sg sg) : stopT (sg, t) y = !(sg != 0 && cmpQ t y.pos == sg) := by
  unfold stopT
  dsimp only
  rw [cmpQ_neg]
  rcases h with rfl | rfl | rfl <;> rcases cmp_sg t y.pos with h | h | h <;> rw [h] <;> rfl
abbrev sToSp : Sp := .pf XQI (fun _ => True) (fun x => RT (toR x.1 x.2.1 x.2.2.1 x.2.2.2.1))

set_option maxHeartbeats 2000000 in
set_option maxRecDepth 100000 in
theorem sto_ok : Sp.ok Try.prog 9 sToSp := by
  refine Sp.pf_ok (T := ⟨[(13, spinPSp), (20, validSp), (14, withinSp), (21, cmpSp), (22, sturnqSp)], []⟩) follows eqok0 ⟨enters Try.func13 rfl rfl, spinP_ok, enters Try.func20 rfl rfl, spok_ok, enters Try.func14 rfl rfl, in_ok, enters Try.func21 rfl rfl, spcmp_ok, enters Try.func22 rfl rfl, sturnq_ok, trivial⟩ [] Try.func9 rfl (by kernel_rfl) _ _ _ fun x E hp => ?_
  obtain ⟨⟨⟨ma, mb⟩, mn, ⟨mc, md⟩⟩, ⟨x1, ⟨x2, x3⟩⟩, ⟨t1, t2⟩, n0, u⟩ := x
  by_cases hv : (okX ⟨⟨ma, mb⟩, mn, ⟨mc, md⟩⟩ ⟨x1, ⟨x2, x3⟩⟩ && okQ ⟨t1, t2⟩) = true
  · have hv' := hv
    rw [Bool.and_eq_true] at hv'
    have hmx := okX_mx hv'.1
    (repeat' ((conv => whnf); (first | with_reducible apply And.intro | (with_reducible intro hh; first | (with_reducible have hx := NewRow.self hh; clear hx) | (with_reducible have hrow := Made.row hh; have hle := Made.le hh; have hmade := hh; clear hh) | (with_reducible have hrow := Fresh.rowS hh; have hle := Fresh.leS hh; have hfr := hh; clear hh) | (with_reducible have hx := Ext.self hh; clear hx) | (with_reducible have hx := SlV.self hh; clear hx) | (with_reducible have hx := Value.self hh; clear hx) | with_reducible cases hh | skip) | (with_reducible apply AllEq.mk; intro yy hq) | with_reducible apply trivial | with_reducible apply Exists.intro () | (with_reducible apply ex_side; (first | with_reducible assumption | with_reducible apply fracs1 | with_reducible apply fracs2 | with_reducible apply fracs3 | with_reducible apply spans1 | with_reducible apply spans2 | (with_reducible apply NewRow.keep; with_reducible assumption) | (with_reducible apply RowAt.keep; with_reducible assumption) | assumption | (focus ((repeat (first | with_reducible assumption | (with_reducible apply RowAt.le; rotate_left; with_reducible assumption) | (with_reducible apply RowB.le; rotate_left; with_reducible assumption))); done)))) | (with_reducible apply ex_side (a := (_, _)); (focus (with_reducible apply And.intro <;> (focus ((repeat (first | with_reducible assumption | (with_reducible apply RowAt.le; rotate_left; with_reducible assumption) | (with_reducible apply RowB.le; rotate_left; with_reducible assumption))); done))))))); (all_goals (conv => whnf)))
    (all_goals (try dsimp only [Q.eta, Sn.eta, SlV.eta] at *)); (all_goals (first | exact Side.mk trivial | with_reducible exact Side.mk rfl | exact Side.mk (fun _ _ h => h) | exact Side.mk (Made.le (by assumption)) | refine Side.mk ?_ | refine Don.mk ?_ | skip))
    all_goals try (exfalso; rw [hv'.1] at hh; cases hh; done)
    all_goals try (exfalso; rw [hv'.2] at hh; cases hh; done)
    all_goals first
      | exact ⟨hv'.2, hmx.2.2⟩
      | (have h9 := not_t hh; rw [toR_2 hv h9]; rfl)
      | skip
    have hw := not_f (by assumption : (!withinB n0 0 10000) = false)
    have hwi := within_iff.1 hw
    clear hh
    rw [toR_3 hv hw]
    obtain ⟨n, rfl⟩ : ∃ n : Nat, n0 = n := ⟨n0.toNat, by omega⟩
    rw [Int.toNat_natCast]
    have hsg := cmp_sg ⟨t1, t2⟩ ⟨x2, x3⟩
    generalize hsd : cmpQ ⟨t1, t2⟩ ⟨x2, x3⟩ = sg at hsg ⊢
    refine ⟨fun m s => ∃ (k : Nat) (i : Int) (y : Spn) (wg : Nat → AV) (ww : Nat → Value), m = n - k ∧ k ≤ n ∧ i = (k : Int) ∧ okMX ⟨⟨ma, mb⟩, mn, ⟨mc, md⟩⟩ y ∧ untilR ⟨⟨ma, mb⟩, mn, ⟨mc, md⟩⟩ sg (stopT (sg, ⟨t1, t2⟩)) n 0 ⟨x1, ⟨x2, x3⟩⟩ = untilR ⟨⟨ma, mb⟩, mn, ⟨mc, md⟩⟩ sg (stopT (sg, ⟨t1, t2⟩)) (n - k) (k : Int) y ∧ s = ⟨[.v (ww 0), .v (ww 1), .v (ww 2), .v (.int .i64 (n : Int)), .p 0 0, .p 1 0, .p 2 0, .v (ww 3), .p 3 0, .v (ww 4), .v (ww 5), .v (.int .i64 sg), .v (.int .i64 i), wg 0, wg 1, .v (ww 6), .v (ww 7), .v (ww 8), .v (ww 9), .v (ww 10), .v (ww 11), .v (ww 12), .v (ww 13), .v (ww 14), .v (ww 15), .v (ww 16), .v (ww 17), .v (ww 18), .p 1 1, .v (ww 19), .v (ww 20), wg 2, wg 3, wg 4, wg 5, wg 6, wg 7, wg 8, wg 9, wg 10, wg 11, wg 12, wg 13, wg 14, .v (ww 21), wg 15, wg 16, wg 17, wg 18, wg 19, wg 20, wg 21, wg 22, .v (ww 22), .v (ww 23), wg 23, wg 24, wg 25, .v (ww 24), .v (ww 25), .v (ww 26), .v (ww 27)], [([.int .i64 ma, .int .i64 mb, .int .i64 mn, .int .i64 mc, .int .i64 md], 32), ([.int .i64 y.turned, .int .i64 y.pos.p, .int .i64 y.pos.q], 35), ([.int .i64 t1, .int .i64 t2], 30), ([.int .i64 0, .int .i64 0, .int .i64 0], 35)], E⟩, ⟨_, 0, _, ⟨x1, ⟨x2, x3⟩⟩, nthA [_, _, _, _, _, _, _, _, _, _, _, _, _, _, _, _, _, _, _, _, _, _, _, _, _, _], nthV [_, _, _, _, _, _, _, _, _, _, _, _, _, _, _, _, _, _, _, _, _, _, _, _, _, _, _, _], rfl, Nat.zero_le _, rfl, hmx, rfl, rfl⟩, ?_⟩
    rintro m s ⟨k, i, y, wg, ww, rfl, hk, rfl, hy, hU, rfl⟩
    rw [hU]
    clear hU hmx
    obtain ⟨y1, ⟨y2, y3⟩⟩ := y
    have hst := stop_iff (t := ⟨t1, t2⟩) (y := ⟨y1, ⟨y2, y3⟩⟩) hsg
    dsimp only at hst
    by_cases hkn : k = n
    · subst hkn
      rw [Nat.sub_self]
      (repeat' ((conv => whnf); (first | with_reducible apply And.intro | (with_reducible intro hh; first | (with_reducible have hx := NewRow.self hh; clear hx) | (with_reducible have hrow := Made.row hh; have hle := Made.le hh; have hmade := hh; clear hh) | (with_reducible have hrow := Fresh.rowS hh; have hle := Fresh.leS hh; have hfr := hh; clear hh) | (with_reducible have hx := Ext.self hh; clear hx) | (with_reducible have hx := SlV.self hh; clear hx) | (with_reducible have hx := Value.self hh; clear hx) | with_reducible cases hh | skip) | (with_reducible apply AllEq.mk; intro yy hq) | with_reducible apply trivial | with_reducible apply Exists.intro () | (with_reducible apply ex_side; (first | with_reducible assumption | with_reducible apply fracs1 | with_reducible apply fracs2 | with_reducible apply fracs3 | with_reducible apply spans1 | with_reducible apply spans2 | (with_reducible apply NewRow.keep; with_reducible assumption) | (with_reducible apply RowAt.keep; with_reducible assumption) | assumption | (focus ((repeat (first | with_reducible assumption | (with_reducible apply RowAt.le; rotate_left; with_reducible assumption) | (with_reducible apply RowB.le; rotate_left; with_reducible assumption))); done)))) | (with_reducible apply ex_side (a := (_, _)); (focus (with_reducible apply And.intro <;> (focus ((repeat (first | with_reducible assumption | (with_reducible apply RowAt.le; rotate_left; with_reducible assumption) | (with_reducible apply RowB.le; rotate_left; with_reducible assumption))); done))))))); (all_goals (conv => whnf)))
      (all_goals (try dsimp only [Q.eta, Sn.eta, SlV.eta] at *)); (all_goals (first | exact Side.mk trivial | with_reducible exact Side.mk rfl | exact Side.mk (fun _ _ h => h) | exact Side.mk (Made.le (by assumption)) | refine Side.mk ?_ | refine Don.mk ?_ | skip))
      all_goals first
        | exact ⟨hv'.2, hy.2.2⟩
        | exact hy
        | (have h8 := (by assumption : (sg != 0) = false)
           have h9 : stopT (sg, ⟨t1, t2⟩) ⟨y1, ⟨y2, y3⟩⟩ = true := by rw [hst, h8]; rfl
           rw [until_stop h9, Int.mul_comm, wrap_kb hsg (by omega)]; rfl)
        | (have h8 := (by assumption : (cmpQ ⟨t1, t2⟩ ⟨y2, y3⟩ == sg) = false)
           have h9 : stopT (sg, ⟨t1, t2⟩) ⟨y1, ⟨y2, y3⟩⟩ = true := by rw [hst, h8, Bool.and_false]; rfl
           rw [until_stop h9, Int.mul_comm, wrap_kb hsg (by omega)]; rfl)
        | skip
      all_goals have h9 : stopT (sg, ⟨t1, t2⟩) ⟨y1, ⟨y2, y3⟩⟩ = false := by rw [hst, (by assumption : (sg != 0) = true), (by assumption : (cmpQ ⟨t1, t2⟩ ⟨y2, y3⟩ == sg) = true)]; rfl
      all_goals first
        | (exfalso; have h9 := (by assumption : ((k : Int) == (k : Int)) = false); simp at h9; done)
        | (rw [until_end h9]; rfl)
    · obtain ⟨j, hj⟩ : ∃ j, n - k = j + 1 := ⟨n - k - 1, by omega⟩
      rw [hj]
      (repeat' ((conv => whnf); (first | with_reducible apply And.intro | (with_reducible intro hh; first | (with_reducible have hx := NewRow.self hh; clear hx) | (with_reducible have hrow := Made.row hh; have hle := Made.le hh; have hmade := hh; clear hh) | (with_reducible have hrow := Fresh.rowS hh; have hle := Fresh.leS hh; have hfr := hh; clear hh) | (with_reducible have hx := Ext.self hh; clear hx) | (with_reducible have hx := SlV.self hh; clear hx) | (with_reducible have hx := Value.self hh; clear hx) | with_reducible cases hh | skip) | (with_reducible apply AllEq.mk; intro yy hq) | with_reducible apply trivial | with_reducible apply Exists.intro () | (with_reducible apply ex_side; (first | with_reducible assumption | with_reducible apply fracs1 | with_reducible apply fracs2 | with_reducible apply fracs3 | with_reducible apply spans1 | with_reducible apply spans2 | (with_reducible apply NewRow.keep; with_reducible assumption) | (with_reducible apply RowAt.keep; with_reducible assumption) | assumption | (focus ((repeat (first | with_reducible assumption | (with_reducible apply RowAt.le; rotate_left; with_reducible assumption) | (with_reducible apply RowB.le; rotate_left; with_reducible assumption))); done)))) | (with_reducible apply ex_side (a := (_, _)); (focus (with_reducible apply And.intro <;> (focus ((repeat (first | with_reducible assumption | (with_reducible apply RowAt.le; rotate_left; with_reducible assumption) | (with_reducible apply RowB.le; rotate_left; with_reducible assumption))); done))))))); (all_goals (conv => whnf)))
      (all_goals (try dsimp only [Q.eta, Sn.eta, SlV.eta] at *)); (all_goals (first | exact Side.mk trivial | with_reducible exact Side.mk rfl | exact Side.mk (fun _ _ h => h) | exact Side.mk (Made.le (by assumption)) | refine Side.mk ?_ | refine Don.mk ?_ | skip))
      all_goals first
        | exact ⟨hv'.2, hy.2.2⟩
        | exact hy
        | (have h8 := (by assumption : (sg != 0) = false)
           have h9 : stopT (sg, ⟨t1, t2⟩) ⟨y1, ⟨y2, y3⟩⟩ = true := by rw [hst, h8]; rfl
           rw [until_stop h9, Int.mul_comm, wrap_kb hsg (by omega)]; rfl)
        | (have h8 := (by assumption : (cmpQ ⟨t1, t2⟩ ⟨y2, y3⟩ == sg) = false)
           have h9 : stopT (sg, ⟨t1, t2⟩) ⟨y1, ⟨y2, y3⟩⟩ = true := by rw [hst, h8, Bool.and_false]; rfl
           rw [until_stop h9, Int.mul_comm, wrap_kb hsg (by omega)]; rfl)
        | skip
      all_goals have h9 : stopT (sg, ⟨t1, t2⟩) ⟨y1, ⟨y2, y3⟩⟩ = false := by rw [hst, (by assumption : (sg != 0) = true), (by assumption : (cmpQ ⟨t1, t2⟩ ⟨y2, y3⟩ == sg) = true)]; rfl
      all_goals try (exfalso; have h9 := (by assumption : ((k : Int) == (n : Int)) = true); simp at h9; omega)
      all_goals subst hq
      · rw [until_bad h9 hh]
        rfl
      · have h8 := (by assumption : ((turnR ⟨⟨ma, mb⟩, mn, ⟨mc, md⟩⟩ ⟨y1, ⟨y2, y3⟩⟩ sg).2 != 0) = false)
        have h7' : (turnR ⟨⟨ma, mb⟩, mn, ⟨mc, md⟩⟩ ⟨y1, ⟨y2, y3⟩⟩ sg).2 = 0 := by simpa using h8
        refine ⟨_, ?_, k + 1, _, _, nthA [_, _, _, _, _, _, _, _, _, _, _, _, _, _, _, _, _, _, _, _, _, _, _, _, _, _], nthV [_, _, _, _, _, _, _, _, _, _, _, _, _, _, _, _, _, _, _, _, _, _, _, _, _, _, _, _], rfl, by omega, by rw [wrap_in (by omega) (by omega)]; rfl, turnR_mx hy h7', ?_, rfl⟩
        · omega
        · rw [until_step h9 h8, show n - (k + 1) = j by omega]
          rfl
  · have hv0 : (okX ⟨⟨ma, mb⟩, mn, ⟨mc, md⟩⟩ ⟨x1, ⟨x2, x3⟩⟩ && okQ ⟨t1, t2⟩) = false := by simpa using hv
    have hk : okX ⟨⟨ma, mb⟩, mn, ⟨mc, md⟩⟩ ⟨x1, ⟨x2, x3⟩⟩ = true → okQ ⟨t1, t2⟩ = true → False := fun h1 h2 => by rw [h1, h2] at hv0; cases hv0
    (repeat' ((conv => whnf); (first | with_reducible apply And.intro | (with_reducible intro hh; first | (with_reducible have hx := NewRow.self hh; clear hx) | (with_reducible have hrow := Made.row hh; have hle := Made.le hh; have hmade := hh; clear hh) | (with_reducible have hrow := Fresh.rowS hh; have hle := Fresh.leS hh; have hfr := hh; clear hh) | (with_reducible have hx := Ext.self hh; clear hx) | (with_reducible have hx := SlV.self hh; clear hx) | (with_reducible have hx := Value.self hh; clear hx) | with_reducible cases hh | skip) | (with_reducible apply AllEq.mk; intro yy hq) | with_reducible apply trivial | with_reducible apply Exists.intro () | (with_reducible apply ex_side; (first | with_reducible assumption | with_reducible apply fracs1 | with_reducible apply fracs2 | with_reducible apply fracs3 | with_reducible apply spans1 | with_reducible apply spans2 | (with_reducible apply NewRow.keep; with_reducible assumption) | (with_reducible apply RowAt.keep; with_reducible assumption) | assumption | (focus ((repeat (first | with_reducible assumption | (with_reducible apply RowAt.le; rotate_left; with_reducible assumption) | (with_reducible apply RowB.le; rotate_left; with_reducible assumption))); done)))) | (with_reducible apply ex_side (a := (_, _)); (focus (with_reducible apply And.intro <;> (focus ((repeat (first | with_reducible assumption | (with_reducible apply RowAt.le; rotate_left; with_reducible assumption) | (with_reducible apply RowB.le; rotate_left; with_reducible assumption))); done))))))); (all_goals (conv => whnf)))
    (all_goals (try dsimp only [Q.eta, Sn.eta, SlV.eta] at *)); (all_goals (first | exact Side.mk trivial | with_reducible exact Side.mk rfl | exact Side.mk (fun _ _ h => h) | exact Side.mk (Made.le (by assumption)) | refine Side.mk ?_ | refine Don.mk ?_ | skip))
    all_goals first
      | (rw [toR_1 hv0]; rfl)
      | (exfalso; exact hk (not_f (by assumption)) (not_f (by assumption)))

end Go.Proofs.Ytjibkphhlflpeaa
