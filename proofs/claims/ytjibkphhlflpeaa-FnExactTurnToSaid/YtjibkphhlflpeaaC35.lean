/- Turning until a test holds: what it comes to, and the contracts of the functions that turn to a reading; conditions: the bounds that each names. -/
import Derived.Test.YtjibkphhlflpeaaAb
import Derived.Test.YtjibkphhlflpeaaC1
import Derived.Test.YtjibkphhlflpeaaC2
import Derived.Test.YtjibkphhlflpeaaC3
import Derived.Test.YtjibkphhlflpeaaC4
import Derived.Test.YtjibkphhlflpeaaC5
import Derived.Test.YtjibkphhlflpeaaCL
import Derived.Test.YtjibkphhlflpeaaC6
import Derived.Test.YtjibkphhlflpeaaC7
import Derived.Test.YtjibkphhlflpeaaC8
import Derived.Test.YtjibkphhlflpeaaC9
import Derived.Test.YtjibkphhlflpeaaCO
import Derived.Test.YtjibkphhlflpeaaC10
import Derived.Test.YtjibkphhlflpeaaC11
import Derived.Test.YtjibkphhlflpeaaCN
import Derived.Test.YtjibkphhlflpeaaProg
set_option linter.unusedVariables false
set_option linter.unusedSimpArgs false
namespace Go.Proofs.Ytjibkphhlflpeaa
open Ab

abbrev RT (r : Spn × Int × Int) : Value := .tuple #[r.1.v, .int .i64 r.2.1, .int .i64 r.2.2]
/-- Turning, at most so often, till the test holds. -/
def untilR (m : Scr) (b : Int) (stop : Spn → Bool) : Nat → Int → Spn → Spn × Int × Int
  | 0, c, x => if stop x then (x, c * b, 0) else (X0, 0, 7)
  | k + 1, c, x => if stop x then (x, c * b, 0) else (if (turnR m x b).2 = 0 then untilR m b stop k (c + 1) (turnR m x b).1 else (X0, 0, (turnR m x b).2))
theorem until_stop {m : Scr} {b : Int} {stop : Spn → Bool} {k : Nat} {c : Int} {x : Spn} (h : stop x = true) : untilR m b stop k c x = (x, c * b, 0) := by
  cases k <;> rw [untilR, if_pos h]
theorem until_end {m : Scr} {b : Int} {stop : Spn → Bool} {c : Int} {x : Spn} (h : stop x = false) : untilR m b stop 0 c x = (X0, 0, 7) := by rw [untilR, if_neg (by simp [h])]
theorem until_bad {m : Scr} {b : Int} {stop : Spn → Bool} {k : Nat} {c : Int} {x : Spn} (h : stop x = false) (h2 : ((turnR m x b).2 != 0) = true) : untilR m b stop (k + 1) c x = (X0, 0, (turnR m x b).2) := by
  rw [untilR, if_neg (by simp [h]), if_neg (by simpa using h2)]
theorem until_step {m : Scr} {b : Int} {stop : Spn → Bool} {k : Nat} {c : Int} {x : Spn} (h : stop x = false) (h2 : ((turnR m x b).2 != 0) = false) : untilR m b stop (k + 1) c x = untilR m b stop k (c + 1) (turnR m x b).1 := by
  rw [untilR, if_neg (by simp [h]), if_pos (by simpa using h2)]
theorem turnR_mx {m : Scr} {x : Spn} {b : Int} (hx : okMX m x) (h2 : (turnR m x b).2 = 0) : okMX m (turnR m x b).1 := by
  cases h1 : withinB b (-20000) 20000 with
  | false => rw [turnR_out (.inl h1)] at h2; cases h2
  | true =>
    cases h3 : withinB (x.turned + b) (-10000) 10000 with
    | false => rw [turnR_out (.inr h3)] at h2; cases h2
    | true =>
      cases he : endsO m (x.turned + b) with
      | none => rw [turnR_none h1 h3 he] at h2; cases h2
      | some e =>
        rw [turnR_some h1 h3 he]
        have hok := endsO_ok he
        exact ⟨hx.1, h3, lesQ_ok hok.2 (greQ_ok hok.1 hx.2.2)⟩
theorem until_congr {m : Scr} {b : Int} {s s' : Spn → Bool} (h : ∀ x, okQ x.pos = true → s x = s' x) : ∀ (k : Nat) (c : Int) (x : Spn), okMX m x → untilR m b s k c x = untilR m b s' k c x
  | 0, c, x, hx => by rw [untilR, untilR, h x hx.2.2]
  | k + 1, c, x, hx => by
    rw [untilR, untilR, h x hx.2.2]
    split
    · rfl
    · split
      · rename_i h2
        exact until_congr h k (c + 1) _ (turnR_mx hx h2)
      · rfl
/-- A function that closes over pointers. -/
def Arg.clo (g : FuncId) : Arg (Addr × Addr) where
  enc c := .func (.func g) #[] #[.pointer (some c.1), .pointer (some c.2)]
  dec | .func (.func h) a ⟨[.pointer (some p), .pointer (some q)]⟩ => match Nat.beq h g && Nat.beq a.size 0 with
        | true => some (p, q)
        | false => none
      | _ => none
  ok := by
    intro v x h
    split at h
    · split at h
      · rename_i hb
        rw [Bool.and_eq_true] at hb
        obtain rfl := Nat.eq_of_beq_eq_true hb.1
        cases h
        have := Array.eq_empty_of_size_eq_zero (Nat.eq_of_beq_eq_true hb.2)
        rw [this]
      · cases h
    · cases h
abbrev XPP : ArgL (Spn × Addr × Addr × Unit) := .cons spnA (.cons Arg.ptr (.cons Arg.ptr .nil))
abbrev Sg (n : Int) : Prop := n = -1 ∨ n = 0 ∨ n = 1
theorem cmp_sg (a b : Q) : Sg (cmpQ a b) := by
  unfold cmpQ
  split
  · exact .inl rfl
  · split
    · exact .inr (.inr rfl)
    · exact .inr (.inl rfl)
theorem wrap_sg {a b : Int} (h : Sg a) (k : Sg b) : IntKind.i64.wrap (a * b) = a * b := by
  rcases h with rfl | rfl | rfl <;> rcases k with rfl | rfl | rfl <;> decide
theorem wrap_kb {b : Int} {k : Nat} (h : Sg b) (hk : k ≤ 10000) : IntKind.i64.wrap ((k : Int) * b) = (k : Int) * b := by
  rcases h with rfl | rfl | rfl <;> exact wrap_in (by omega) (by omega)
abbrev cloTSp : Sp := .rf XPP (fun x (l : Int × Q) E => E x.2.1 = some (.int .i64 l.1) ∧ PtrAt Q.cells x.2.2.1 l.2 E ∧ okQ l.2 = true ∧ okQ x.1.pos = true ∧ Sg l.1) (fun x l => .bool (decide (l.1 * cmpQ x.1.pos l.2 ≥ 0)))
set_option maxRecDepth 100000 in
theorem cloT_ok : Sp.ok Try.prog 25 cloTSp := by
  refine Sp.rf_ok (T := ⟨[(24, cmpSp)], []⟩) follows eqok0 ⟨enters Try.func24 rfl rfl, cmp_ok, trivial⟩ [(1, .take 0 (.take 1 (.take 2 (.take 3 (.alt 4 (.take 5 (.take 6 (.take 7 (.done)))) (.last))))))] Try.func25 rfl (by kernel_rfl) _ _ _ fun x l E hp => ?_
  obtain ⟨⟨t, ⟨p, q⟩⟩, pa, pb, u⟩ := x
  obtain ⟨sg, ⟨a, b⟩⟩ := l
  obtain ⟨h1, h2, h3, h4, h5⟩ := hp
  dsimp only at h1 h2 h3 h4 h5
  have f0 : E (pb.add 0) = some (.int .i64 a) := h2 0 _ rfl
  have f1 : E (pb.add (0 + 1)) = some (.int .i64 b) := h2 1 _ rfl
  have hw : IntKind.i64.wrap (sg * cmpQ ⟨p, q⟩ ⟨a, b⟩) = sg * cmpQ ⟨p, q⟩ ⟨a, b⟩ := wrap_sg h5 (cmp_sg _ _)
  (repeat' ((conv => whnf); (first | with_reducible apply And.intro | (with_reducible intro hh; first | (with_reducible have hx := NewRow.self hh; clear hx) | (with_reducible have hrow := Made.row hh; have hle := Made.le hh; have hmade := hh; clear hh) | (with_reducible have hrow := Fresh.rowS hh; have hle := Fresh.leS hh; have hfr := hh; clear hh) | (with_reducible have hx := Ext.self hh; clear hx) | (with_reducible have hx := SlV.self hh; clear hx) | (with_reducible have hx := Value.self hh; clear hx) | with_reducible cases hh | skip) | (with_reducible apply AllEq.mk; intro yy hq) | with_reducible apply trivial | with_reducible apply Exists.intro () | (with_reducible apply ex_side; (first | with_reducible assumption | with_reducible apply fracs1 | with_reducible apply fracs2 | with_reducible apply fracs3 | with_reducible apply spans1 | with_reducible apply spans2 | (with_reducible apply NewRow.keep; with_reducible assumption) | (with_reducible apply RowAt.keep; with_reducible assumption) | assumption | (focus ((repeat (first | with_reducible assumption | (with_reducible apply RowAt.le; rotate_left; with_reducible assumption) | (with_reducible apply RowB.le; rotate_left; with_reducible assumption))); done)))) | (with_reducible apply ex_side (a := (_, _)); (focus (with_reducible apply And.intro <;> (focus ((repeat (first | with_reducible assumption | (with_reducible apply RowAt.le; rotate_left; with_reducible assumption) | (with_reducible apply RowB.le; rotate_left; with_reducible assumption))); done))))))); (all_goals (conv => whnf)))
  (all_goals (try dsimp only [Q.eta, Sn.eta, SlV.eta] at *)); (all_goals (first | exact Side.mk trivial | with_reducible exact Side.mk rfl | exact Side.mk (fun _ _ h => h) | exact Side.mk (Made.le (by assumption)) | refine Side.mk ?_ | refine Don.mk ?_ | skip))
  · exact ⟨h4, h3⟩
  · rw [hw]
/-! the loop -/
abbrev UT : ArgL (Scr × Spn × Int × Int × (Addr × Addr) × Unit) := .cons scrA (.cons spnA (.cons .int (.cons .int (.cons (Arg.clo 25) .nil))))
def stopT (l : Int × Q) (x : Spn) : Bool := decide (l.1 * cmpQ x.pos l.2 ≥ 0)
abbrev untTSp : Sp := .rf UT (fun x (l : Int × Q) E => okMX x.1 x.2.1 ∧ E x.2.2.2.2.1.1 = some (.int .i64 l.1) ∧ PtrAt Q.cells x.2.2.2.2.1.2 l.2 E ∧ okQ l.2 = true ∧ Sg l.1 ∧ Sg x.2.2.1 ∧ 0 ≤ x.2.2.2.1 ∧ x.2.2.2.1 ≤ 10000) (fun x l => RT (untilR x.1 x.2.2.1 (stopT l) x.2.2.2.1.toNat 0 x.2.1))

set_option maxRecDepth 100000 in
theorem untT_ok : Sp.ok Try.prog 18 untTSp := by
  refine Sp.rf_ok (T := ⟨[(25, cloTSp), (32, turnqSp)], []⟩) follows eqok0 ⟨enters Try.func25 rfl rfl, cloT_ok, enters Try.func32 rfl rfl, turnq_ok, trivial⟩ [] Try.func18 rfl (by kernel_rfl) _ _ _ fun x l E hp => ?_
  obtain ⟨m, x0, b, n0, ⟨pa, pb⟩, u⟩ := x
  obtain ⟨sg, tq⟩ := l
  obtain ⟨hmx, h1, h2, h3, h4, h5, h6, h7⟩ := hp
  dsimp only at hmx h1 h2 h3 h4 h5 h6 h7
  obtain ⟨n, rfl⟩ : ∃ n : Nat, n0 = n := ⟨n0.toNat, by omega⟩
  obtain ⟨⟨ma, mb⟩, mn, ⟨mc, md⟩⟩ := m
  obtain ⟨x1, ⟨x2, x3⟩⟩ := x0
  conv => whnf
  refine ⟨fun m s => ∃ (k : Nat) (i : Int) (y : Spn) (wg : Nat → AV) (ww : Nat → Value), m = n - k ∧ k ≤ n ∧ i = (k : Int) ∧ okMX ⟨⟨ma, mb⟩, mn, ⟨mc, md⟩⟩ y ∧ untilR ⟨⟨ma, mb⟩, mn, ⟨mc, md⟩⟩ b (stopT (sg, tq)) n 0 ⟨x1, ⟨x2, x3⟩⟩ = untilR ⟨⟨ma, mb⟩, mn, ⟨mc, md⟩⟩ b (stopT (sg, tq)) (n - k) (k : Int) y ∧ s = ⟨[.v (ww 0), .v (ww 1), .v (.int .i64 b), .v (.int .i64 (n : Int)), .v (.func (.func 25) #[] #[.pointer (some pa), .pointer (some pb)]), .p 0 0, .p 1 0, .v (ww 2), .v (ww 3), .v (ww 4), .p 2 0, .v (ww 5), .v (ww 6), .v (.int .i64 i), wg 0, wg 1, wg 2, wg 3, wg 4, wg 5, wg 6, wg 7, wg 8, .v (ww 7), wg 9, wg 10, wg 11, wg 12, wg 13, wg 14, wg 15, wg 16, wg 17, .v (ww 8), .v (ww 9), wg 18, wg 19, wg 20, .v (ww 10), .v (ww 11), .v (ww 12), .v (ww 13)], [([.int .i64 ma, .int .i64 mb, .int .i64 mn, .int .i64 mc, .int .i64 md], 32), ([.int .i64 y.turned, .int .i64 y.pos.p, .int .i64 y.pos.q], 35), ([.int .i64 0, .int .i64 0, .int .i64 0], 35)], E⟩, ⟨_, 0, _, ⟨x1, ⟨x2, x3⟩⟩, nthA [_, _, _, _, _, _, _, _, _, _, _, _, _, _, _, _, _, _, _, _, _], nthV [_, _, _, _, _, _, _, _, _, _, _, _, _, _], rfl, Nat.zero_le _, rfl, hmx, rfl, rfl⟩, ?_⟩
  rintro m s ⟨k, i, y, wg, ww, rfl, hk, rfl, hy, hU, rfl⟩
  rw [Int.toNat_natCast, hU]
  clear hU hmx
  obtain ⟨y1, ⟨y2, y3⟩⟩ := y
  have hst : stopT (sg, tq) ⟨y1, ⟨y2, y3⟩⟩ = decide (sg * cmpQ ⟨y2, y3⟩ tq ≥ 0) := rfl
  by_cases hkn : k = n
  · subst hkn
    rw [Nat.sub_self]
    conv => whnf
    refine ⟨(sg, tq), Side.mk ⟨h1, h2, h3, hy.2.2, h4⟩, ?_⟩
    (repeat' ((conv => whnf); (first | with_reducible apply And.intro | (with_reducible intro hh; first | (with_reducible have hx := NewRow.self hh; clear hx) | (with_reducible have hrow := Made.row hh; have hle := Made.le hh; have hmade := hh; clear hh) | (with_reducible have hrow := Fresh.rowS hh; have hle := Fresh.leS hh; have hfr := hh; clear hh) | (with_reducible have hx := Ext.self hh; clear hx) | (with_reducible have hx := SlV.self hh; clear hx) | (with_reducible have hx := Value.self hh; clear hx) | with_reducible cases hh | skip) | (with_reducible apply AllEq.mk; intro yy hq) | with_reducible apply trivial | with_reducible apply Exists.intro () | (with_reducible apply ex_side; (first | with_reducible assumption | with_reducible apply fracs1 | with_reducible apply fracs2 | with_reducible apply fracs3 | with_reducible apply spans1 | with_reducible apply spans2 | (with_reducible apply NewRow.keep; with_reducible assumption) | (with_reducible apply RowAt.keep; with_reducible assumption) | assumption | (focus ((repeat (first | with_reducible assumption | (with_reducible apply RowAt.le; rotate_left; with_reducible assumption) | (with_reducible apply RowB.le; rotate_left; with_reducible assumption))); done)))) | (with_reducible apply ex_side (a := (_, _)); (focus (with_reducible apply And.intro <;> (focus ((repeat (first | with_reducible assumption | (with_reducible apply RowAt.le; rotate_left; with_reducible assumption) | (with_reducible apply RowB.le; rotate_left; with_reducible assumption))); done))))))); (all_goals (conv => whnf)))
    (all_goals (try dsimp only [Q.eta, Sn.eta, SlV.eta] at *)); (all_goals (first | exact Side.mk trivial | with_reducible exact Side.mk rfl | exact Side.mk (fun _ _ h => h) | exact Side.mk (Made.le (by assumption)) | refine Side.mk ?_ | refine Don.mk ?_ | skip))
    all_goals subst_vars
    all_goals first
      | (exfalso; have h9 := (by assumption : ((k : Int) == (k : Int)) = false); simp at h9; done)
      | (have h9 := hst.trans (not_t (by assumption))
         rw [until_end h9]; rfl)
      | (have h9 := hst.trans (not_f hh)
         rw [until_stop h9, wrap_kb h5 (by omega)]; rfl)
  · obtain ⟨j, hj⟩ : ∃ j, n - k = j + 1 := ⟨n - k - 1, by omega⟩
    rw [hj]
    conv => whnf
    refine ⟨(sg, tq), Side.mk ⟨h1, h2, h3, hy.2.2, h4⟩, ?_⟩
    (repeat' ((conv => whnf); (first | with_reducible apply And.intro | (with_reducible intro hh; first | (with_reducible have hx := NewRow.self hh; clear hx) | (with_reducible have hrow := Made.row hh; have hle := Made.le hh; have hmade := hh; clear hh) | (with_reducible have hrow := Fresh.rowS hh; have hle := Fresh.leS hh; have hfr := hh; clear hh) | (with_reducible have hx := Ext.self hh; clear hx) | (with_reducible have hx := SlV.self hh; clear hx) | (with_reducible have hx := Value.self hh; clear hx) | with_reducible cases hh | skip) | (with_reducible apply AllEq.mk; intro yy hq) | with_reducible apply trivial | with_reducible apply Exists.intro () | (with_reducible apply ex_side; (first | with_reducible assumption | with_reducible apply fracs1 | with_reducible apply fracs2 | with_reducible apply fracs3 | with_reducible apply spans1 | with_reducible apply spans2 | (with_reducible apply NewRow.keep; with_reducible assumption) | (with_reducible apply RowAt.keep; with_reducible assumption) | assumption | (focus ((repeat (first | with_reducible assumption | (with_reducible apply RowAt.le; rotate_left; with_reducible assumption) | (with_reducible apply RowB.le; rotate_left; with_reducible assumption))); done)))) | (with_reducible apply ex_side (a := (_, _)); (focus (with_reducible apply And.intro <;> (focus ((repeat (first | with_reducible assumption | (with_reducible apply RowAt.le; rotate_left; with_reducible assumption) | (with_reducible apply RowB.le; rotate_left; with_reducible assumption))); done))))))); (all_goals (conv => whnf)))
    (all_goals (try dsimp only [Q.eta, Sn.eta, SlV.eta] at *)); (all_goals (first | exact Side.mk trivial | with_reducible exact Side.mk rfl | exact Side.mk (fun _ _ h => h) | exact Side.mk (Made.le (by assumption)) | refine Side.mk ?_ | refine Don.mk ?_ | skip))
    all_goals subst_vars
    all_goals first
      | (exfalso; have h9 := (by assumption : ((k : Int) == (n : Int)) = true); simp at h9; omega)
      | exact hy
      | (have h9 := hst.trans (not_f hh)
         rw [until_stop h9, wrap_kb h5 (by omega)]; rfl)
      | skip
    · have h9 := hst.trans (not_t (by assumption))
      rw [until_bad h9 hh]
      rfl
    · have h9 := hst.trans (not_t (by assumption))
      have h8 := (by assumption : ((turnR ⟨⟨ma, mb⟩, mn, ⟨mc, md⟩⟩ ⟨y1, ⟨y2, y3⟩⟩ b).2 != 0) = false)
      have h7' : (turnR ⟨⟨ma, mb⟩, mn, ⟨mc, md⟩⟩ ⟨y1, ⟨y2, y3⟩⟩ b).2 = 0 := by simpa using h8
      refine ⟨_, ?_, k + 1, _, _, nthA [_, _, _, _, _, _, _, _, _, _, _, _, _, _, _, _, _, _, _, _, _], nthV [_, _, _, _, _, _, _, _, _, _, _, _, _, _], rfl, by omega, by rw [wrap_in (by omega) (by omega)]; rfl, turnR_mx hy h7', ?_, rfl⟩
      · omega
      · rw [until_step h9 h8, show n - (k + 1) = j by omega]
        rfl

end Go.Proofs.Ytjibkphhlflpeaa
