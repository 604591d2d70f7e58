/- Contracts of both packages' functions that read and turn spindles, for all arguments within the bounds that each names; no other condition. -/
import Derived.Test.YtjibkphhlflpeaaAb
import Derived.Test.YtjibkphhlflpeaaC1
import Derived.Test.YtjibkphhlflpeaaC2
import Derived.Test.YtjibkphhlflpeaaC3
import Derived.Test.YtjibkphhlflpeaaC4
import Derived.Test.YtjibkphhlflpeaaC5
import Derived.Test.YtjibkphhlflpeaaCL
import Derived.Test.YtjibkphhlflpeaaC6
import Derived.Test.YtjibkphhlflpeaaC7
import Derived.Test.YtjibkphhlflpeaaC8
import Derived.Test.YtjibkphhlflpeaaC9
import Derived.Test.YtjibkphhlflpeaaCO
import Derived.Test.YtjibkphhlflpeaaC10
import Derived.Test.YtjibkphhlflpeaaProg
set_option linter.unusedVariables false
set_option linter.unusedSimpArgs false
namespace Go.Proofs.Ytjibkphhlflpeaa
open Ab

abbrev RX (r : Spn × Int) : Value := .tuple #[r.1.v, .int .i64 r.2]
abbrev X0 : Spn := ⟨0, ⟨0, 0⟩⟩
/-! reading -/
def readR (m : Scr) (x : Spn) : Q × Int := if okX m x then outO (nutO m x.turned) else (⟨0, 0⟩, 1)
abbrev readSp : Sp := .pf XL (fun _ => True) (fun x => RQ (readR x.1 x.2.1))
theorem readR_yes {m : Scr} {x : Spn} {e : Sn} (h : okX m x = true) (he : endsO m x.turned = some e) : readR m x = (e.hi, 0) := by
  unfold readR
  rw [if_pos h, (nut_some he).2.2]
  rfl
theorem readR_no {m : Scr} {x : Spn} (h : okX m x = false) : readR m x = (⟨0, 0⟩, 1) := by
  unfold readR
  rw [if_neg (by simp [h])]
/-! turning -/
def turnR (m : Scr) (x : Spn) (by_ : Int) : Spn × Int := grd X0 (withinB by_ (-20000) 20000 && withinB (x.turned + by_) (-10000) 10000) 2 (match endsO m (x.turned + by_) with
  | some e => (⟨x.turned + by_, lesQ e.hi (greQ e.lo x.pos)⟩, 0)
  | none => (X0, 3))
abbrev okMX (m : Scr) (x : Spn) : Prop := okM m = true ∧ withinB x.turned (-10000) 10000 = true ∧ okQ x.pos = true
theorem wrap_turn {t b : Int} (h : withinB t (-10000) 10000 = true) (k : withinB b (-20000) 20000 = true) : IntKind.i64.wrap (t + b) = t + b := by
  have := within_iff.1 h
  have := within_iff.1 k
  exact wrap_in (by omega) (by omega)
theorem turnR_some {m : Scr} {x : Spn} {b : Int} {e : Sn} (h : withinB b (-20000) 20000 = true) (k : withinB (x.turned + b) (-10000) 10000 = true) (he : endsO m (x.turned + b) = some e) : turnR m x b = (⟨x.turned + b, lesQ e.hi (greQ e.lo x.pos)⟩, 0) := by
  unfold turnR
  rw [h, k, he]
  rfl
theorem turnR_none {m : Scr} {x : Spn} {b : Int} (h : withinB b (-20000) 20000 = true) (k : withinB (x.turned + b) (-10000) 10000 = true) (he : endsO m (x.turned + b) = none) : turnR m x b = (X0, 3) := by
  unfold turnR
  rw [h, k, he]
  rfl
theorem turnR_out {m : Scr} {x : Spn} {b : Int} (h : withinB b (-20000) 20000 = false ∨ withinB (x.turned + b) (-10000) 10000 = false) : turnR m x b = (X0, 2) := by
  unfold turnR
  rw [grd_no]
  rcases h with h | h <;> simp [h]
abbrev turnSp : Sp := .pf XI (fun x => okMX x.1 x.2.1) (fun x => RX (turnR x.1 x.2.1 x.2.2.1))
set_option maxRecDepth 100000 in
theorem turn_ok : Sp.ok Try.prog 32 turnSp := by
  refine Sp.pf_ok (T := ⟨[(17, withinSp), (31, nutqSp), (48, greSp), (47, lesSp)], []⟩) follows eqok0 ⟨enters Try.func17 rfl rfl, within_ok, enters Try.func31 rfl rfl, nutq_ok, enters Try.func48 rfl rfl, gre_ok, enters Try.func47 rfl rfl, les_ok, trivial⟩ [(7, .take 0 (.take 1 (.take 2 (.take 3 (.take 4 (.take 5 (.take 6 (.take 7 (.alt 8 (.alt 9 (.take 10 (.alt 11 (.take 12 (.done)) (.last))) (.last)) (.last))))))))))] Try.func32 rfl (by kernel_rfl) _ _ _ fun x E hp => ?_
  obtain ⟨⟨⟨a, b⟩, n, ⟨c, d⟩⟩, ⟨t, ⟨p, q⟩⟩, y, u⟩ := x
  obtain ⟨hm, ht, hx⟩ := hp
  dsimp only at hm ht hx
  have hw := @wrap_turn t y ht
  have hnb := nutB_none ⟨⟨a, b⟩, n, ⟨c, d⟩⟩ (t + y)
  have hA := okQ_nutA ⟨⟨a, b⟩, n, ⟨c, d⟩⟩ (t + y)
  have hL := okQ_nutL ⟨⟨a, b⟩, n, ⟨c, d⟩⟩ (t + y)
  (repeat' ((conv => whnf); (first | with_reducible apply And.intro | (with_reducible intro hh; first | (with_reducible have hx := NewRow.self hh; clear hx) | (with_reducible have hrow := Made.row hh; have hle := Made.le hh; have hmade := hh; clear hh) | (with_reducible have hrow := Fresh.rowS hh; have hle := Fresh.leS hh; have hfr := hh; clear hh) | (with_reducible have hx := Ext.self hh; clear hx) | (with_reducible have hx := SlV.self hh; clear hx) | (with_reducible have hx := Value.self hh; clear hx) | with_reducible cases hh | skip) | (with_reducible apply AllEq.mk; intro yy hq) | with_reducible apply trivial | with_reducible apply Exists.intro () | (with_reducible apply ex_side; (first | with_reducible assumption | with_reducible apply fracs1 | with_reducible apply fracs2 | with_reducible apply fracs3 | with_reducible apply spans1 | with_reducible apply spans2 | (with_reducible apply NewRow.keep; with_reducible assumption) | (with_reducible apply RowAt.keep; with_reducible assumption) | assumption | (focus ((repeat (first | with_reducible assumption | (with_reducible apply RowAt.le; rotate_left; with_reducible assumption) | (with_reducible apply RowB.le; rotate_left; with_reducible assumption))); done)))) | (with_reducible apply ex_side (a := (_, _)); (focus (with_reducible apply And.intro <;> (focus ((repeat (first | with_reducible assumption | (with_reducible apply RowAt.le; rotate_left; with_reducible assumption) | (with_reducible apply RowB.le; rotate_left; with_reducible assumption))); done))))))); (all_goals (conv => whnf)))
  (all_goals (try dsimp only [Q.eta, Sn.eta, SlV.eta] at *)); (all_goals (first | exact Side.mk trivial | with_reducible exact Side.mk rfl | exact Side.mk (fun _ _ h => h) | exact Side.mk (Made.le (by assumption)) | refine Side.mk ?_ | refine Don.mk ?_ | skip))
  all_goals subst_vars
  all_goals first | (rw [turnR_out (.inl (not_t hh))]; rfl) | skip
  all_goals have hy : withinB y (-20000) 20000 = true := not_f (by assumption)
  all_goals simp only [hw hy] at *
  all_goals first | (rw [turnR_out (.inr (not_t hh))]; rfl) | skip
  all_goals have hz : withinB (t + y) (-10000) 10000 = true := not_f (by assumption)
  all_goals first | exact ⟨hm, M9_in hz⟩ | exact ⟨hL, hx⟩ | exact ⟨hA, greQ_ok hL hx⟩ | skip
  all_goals rw [Bool.false_or, hnb] at hh
  all_goals cases h : endsO ⟨⟨a, b⟩, n, ⟨c, d⟩⟩ (t + y) with
    | none => first | (rw [h] at hh; cases hh; done) | (rw [turnR_none hy hz h]; rfl)
    | some e => first | (rw [h] at hh; cases hh; done) | (rw [turnR_some hy hz h]; simp only [(nut_some h).1, (nut_some h).2.1]; rfl)
abbrev turnqSp : Sp := .pq XI (fun x => okMX x.1 x.2.1) RX (fun x => turnR x.1 x.2.1 x.2.2.1)
theorem turnq_ok : Sp.ok Try.prog 32 turnqSp := Sp.pq_ok turn_ok
abbrev XI' : ArgL (Spn × Int × Unit) := .cons spnA (.cons .int .nil)
abbrev sturnSp : Sp := .hf scrL 32 XI' (fun m x (_ : Unit) _ => okMX m x.1) (fun m x _ => RX (turnR m x.1 x.2.1))
set_option maxRecDepth 100000 in
theorem sturn_ok : Sp.ok Try.prog 22 sturnSp := by
  refine Sp.hf_ok (T := ⟨[(14, withinSp), (28, sendsqSp), (36, greSp), (35, lesSp)], []⟩) follows eqok0 ⟨enters Try.func14 rfl rfl, in_ok, enters Try.func28 rfl rfl, sendsq_ok, enters Try.func36 rfl rfl, sgre_ok, enters Try.func35 rfl rfl, sles_ok, trivial⟩ [(6, .take 0 (.take 1 (.take 2 (.take 3 (.take 4 (.take 5 (.take 6 (.take 7 (.take 9 (.take 10 (.alt 8 (.alt 11 (.take 12 (.alt 13 (.take 14 (.done)) (.last))) (.last)) (.last))))))))))))] Try.func22 rfl (by kernel_rfl) _ _ _ _ _ fun m x l E hp => ?_
  obtain ⟨⟨a, b⟩, n, ⟨c, d⟩⟩ := m
  obtain ⟨⟨t, ⟨p, q⟩⟩, y, u⟩ := x
  obtain ⟨hm, ht, hx⟩ := hp
  dsimp only at hm ht hx
  have hw := @wrap_turn t y ht
  have hok := @endsO_ok ⟨⟨a, b⟩, n, ⟨c, d⟩⟩ (t + y)
  (repeat' ((conv => whnf); (first | with_reducible apply And.intro | (with_reducible intro hh; first | (with_reducible have hx := NewRow.self hh; clear hx) | (with_reducible have hrow := Made.row hh; have hle := Made.le hh; have hmade := hh; clear hh) | (with_reducible have hrow := Fresh.rowS hh; have hle := Fresh.leS hh; have hfr := hh; clear hh) | (with_reducible have hx := Ext.self hh; clear hx) | (with_reducible have hx := SlV.self hh; clear hx) | (with_reducible have hx := Value.self hh; clear hx) | with_reducible cases hh | skip) | (with_reducible apply AllEq.mk; intro yy hq) | with_reducible apply trivial | with_reducible apply Exists.intro () | (with_reducible apply ex_side; (first | with_reducible assumption | with_reducible apply fracs1 | with_reducible apply fracs2 | with_reducible apply fracs3 | with_reducible apply spans1 | with_reducible apply spans2 | (with_reducible apply NewRow.keep; with_reducible assumption) | (with_reducible apply RowAt.keep; with_reducible assumption) | assumption | (focus ((repeat (first | with_reducible assumption | (with_reducible apply RowAt.le; rotate_left; with_reducible assumption) | (with_reducible apply RowB.le; rotate_left; with_reducible assumption))); done)))) | (with_reducible apply ex_side (a := (_, _)); (focus (with_reducible apply And.intro <;> (focus ((repeat (first | with_reducible assumption | (with_reducible apply RowAt.le; rotate_left; with_reducible assumption) | (with_reducible apply RowB.le; rotate_left; with_reducible assumption))); done))))))); (all_goals (conv => whnf)))
  (all_goals (try dsimp only [Q.eta, Sn.eta, SlV.eta] at *)); (all_goals (first | exact Side.mk trivial | with_reducible exact Side.mk rfl | exact Side.mk (fun _ _ h => h) | exact Side.mk (Made.le (by assumption)) | refine Side.mk ?_ | refine Don.mk ?_ | skip))
  all_goals subst_vars
  all_goals first | (refine ⟨?_, rfl⟩; rw [turnR_out (.inl (not_t hh))]; rfl) | skip
  all_goals have hy : withinB y (-20000) 20000 = true := not_f (by assumption)
  all_goals simp only [hw hy] at *
  all_goals first | (refine ⟨?_, rfl⟩; rw [turnR_out (.inr (not_t hh))]; rfl) | skip
  all_goals have hz : withinB (t + y) (-10000) 10000 = true := not_f (by assumption)
  all_goals first | exact ⟨hm, M9_in hz⟩ | skip
  all_goals rw [outS_ne] at hh
  all_goals cases h : endsO ⟨⟨a, b⟩, n, ⟨c, d⟩⟩ (t + y) with
    | none => first | (rw [h] at hh; cases hh; done) | (refine ⟨?_, rfl⟩; rw [turnR_none hy hz h]; rfl)
    | some e => first | (rw [h] at hh; cases hh; done) | exact ⟨hx, (hok h).1⟩ | exact ⟨greQ_ok hx (hok h).1, (hok h).2⟩ | (refine ⟨?_, rfl⟩; rw [turnR_some hy hz h, lesQ_comm (hok h).2 (greQ_ok (hok h).1 hx), greQ_comm (hok h).1 hx]; rfl)
abbrev sturnqSp : Sp := .hq scrL 32 XI' (fun m x (_ : Unit) _ => okMX m x.1) RX (fun m x _ => turnR m x.1 x.2.1)
theorem sturnq_ok : Sp.ok Try.prog 22 sturnqSp := Sp.hq_ok sturn_ok
theorem okX_mx {m : Scr} {x : Spn} (h : okX m x = true) : okMX m x := by
  obtain ⟨h1, h2, h3, _⟩ := okX_iff h
  exact ⟨h1, h2, h3⟩
def turnF (m : Scr) (x : Spn) (b : Int) : Spn × Int := grd X0 (okX m x) 1 (turnR m x b)
abbrev turnFSp : Sp := .pf XI (fun _ => True) (fun x => RX (turnF x.1 x.2.1 x.2.2.1))
abbrev X2 : ArgL (Spn × Spn × Unit) := .cons spnA (.cons spnA .nil)
abbrev eqSpinSp : Sp := .pf X2 (fun _ => True) (fun x => .bool (decide (x.1 = x.2.1)))
set_option maxRecDepth 100000 in
theorem eqSpin_ok : Sp.ok Try.prog 12 eqSpinSp := by
  refine Sp.pf_ok (T := ⟨[(26, eqFracSp)], []⟩) follows eqok0 ⟨enters Try.func26 rfl rfl, eqFrac_ok, trivial⟩ [] Try.func12 rfl (by kernel_rfl) _ _ _ fun x E hp => ?_
  obtain ⟨⟨t, ⟨p, q⟩⟩, ⟨t', ⟨p', q'⟩⟩, u⟩ := x
  (repeat' ((conv => whnf); (first | with_reducible apply And.intro | (with_reducible intro hh; first | (with_reducible have hx := NewRow.self hh; clear hx) | (with_reducible have hrow := Made.row hh; have hle := Made.le hh; have hmade := hh; clear hh) | (with_reducible have hrow := Fresh.rowS hh; have hle := Fresh.leS hh; have hfr := hh; clear hh) | (with_reducible have hx := Ext.self hh; clear hx) | (with_reducible have hx := SlV.self hh; clear hx) | (with_reducible have hx := Value.self hh; clear hx) | with_reducible cases hh | skip) | (with_reducible apply AllEq.mk; intro yy hq) | with_reducible apply trivial | with_reducible apply Exists.intro () | (with_reducible apply ex_side; (first | with_reducible assumption | with_reducible apply fracs1 | with_reducible apply fracs2 | with_reducible apply fracs3 | with_reducible apply spans1 | with_reducible apply spans2 | (with_reducible apply NewRow.keep; with_reducible assumption) | (with_reducible apply RowAt.keep; with_reducible assumption) | assumption | (focus ((repeat (first | with_reducible assumption | (with_reducible apply RowAt.le; rotate_left; with_reducible assumption) | (with_reducible apply RowB.le; rotate_left; with_reducible assumption))); done)))) | (with_reducible apply ex_side (a := (_, _)); (focus (with_reducible apply And.intro <;> (focus ((repeat (first | with_reducible assumption | (with_reducible apply RowAt.le; rotate_left; with_reducible assumption) | (with_reducible apply RowB.le; rotate_left; with_reducible assumption))); done))))))); (all_goals (conv => whnf)))
  (all_goals (try dsimp only [Q.eta, Sn.eta, SlV.eta] at *)); (all_goals (first | exact Side.mk trivial | with_reducible exact Side.mk rfl | exact Side.mk (fun _ _ h => h) | exact Side.mk (Made.le (by assumption)) | refine Side.mk ?_ | refine Don.mk ?_ | skip))
  all_goals (first | (simp_all; done) | (simp_all; grind))

end Go.Proofs.Ytjibkphhlflpeaa
