/- Contracts of the functions that find the play; conditions: the bounds that each names. -/
import Derived.Test.YtjibkphhlflpeaaAb
import Derived.Test.YtjibkphhlflpeaaC1
import Derived.Test.YtjibkphhlflpeaaC2
import Derived.Test.YtjibkphhlflpeaaC3
import Derived.Test.YtjibkphhlflpeaaC4
import Derived.Test.YtjibkphhlflpeaaC5
import Derived.Test.YtjibkphhlflpeaaCL
import Derived.Test.YtjibkphhlflpeaaC6
import Derived.Test.YtjibkphhlflpeaaC7
import Derived.Test.YtjibkphhlflpeaaC8
import Derived.Test.YtjibkphhlflpeaaC9
import Derived.Test.YtjibkphhlflpeaaCO
import Derived.Test.YtjibkphhlflpeaaC10
import Derived.Test.YtjibkphhlflpeaaC11
import Derived.Test.YtjibkphhlflpeaaC12
import Derived.Test.YtjibkphhlflpeaaC14
import Derived.Test.YtjibkphhlflpeaaC27
import Derived.Test.YtjibkphhlflpeaaCN
import Derived.Test.YtjibkphhlflpeaaC35
import Derived.Test.YtjibkphhlflpeaaProg
set_option linter.unusedVariables false
set_option linter.unusedSimpArgs false
namespace Go.Proofs.Ytjibkphhlflpeaa
open Ab

/-- Moves till the place turns. -/
def movR (m : Scr) (b : Int) : Nat → Int → Spn → Spn × Int × Int
  | 0, _, _ => (X0, 0, 7)
  | k + 1, c, x => if (turnR m x b).2 = 0 then (if (turnR m x b).1.pos = x.pos then movR m b k (c + 1) (turnR m x b).1 else ((turnR m x b).1, c, 0)) else (X0, 0, (turnR m x b).2)
theorem mov_bad {m : Scr} {b : Int} {k : Nat} {c : Int} {x : Spn} (h : (turnR m x b).2 ≠ 0) : movR m b (k + 1) c x = (X0, 0, (turnR m x b).2) := by rw [movR, if_neg h]
theorem mov_on {m : Scr} {b : Int} {k : Nat} {c : Int} {x : Spn} (h : (turnR m x b).2 = 0) (h2 : (turnR m x b).1.pos = x.pos) : movR m b (k + 1) c x = movR m b k (c + 1) (turnR m x b).1 := by rw [movR, if_pos h, if_pos h2]
theorem mov_done {m : Scr} {b : Int} {k : Nat} {c : Int} {x : Spn} (h : (turnR m x b).2 = 0) (h2 : ¬(turnR m x b).1.pos = x.pos) : movR m b (k + 1) c x = ((turnR m x b).1, c, 0) := by rw [movR, if_pos h, if_neg h2]
def stopP (q : Q) (x : Spn) : Bool := decide (x.pos ≠ q)
theorem until_mov {m : Scr} {b : Int} : ∀ (k : Nat) (c : Int) (x : Spn), untilR m b (stopP x.pos) k c x = ((movR m b k (c + 1) x).1, (movR m b k (c + 1) x).2.1 * b, (movR m b k (c + 1) x).2.2)
  | 0, c, x => by
    rw [until_end (by simp [stopP]), movR]
    simp
  | k + 1, c, x => by
    have h0 : stopP x.pos x = false := by simp [stopP]
    by_cases h : (turnR m x b).2 = 0
    · rw [until_step h0 (by simp [h])]
      by_cases h2 : (turnR m x b).1.pos = x.pos
      · rw [mov_on h h2, ← until_mov k (c + 1), h2]
      · rw [until_stop (by simp [stopP, h2]), mov_done h h2]
    · rw [until_bad h0 (by simpa using h), mov_bad h]
      simp
theorem mov_mx {m : Scr} {b : Int} : ∀ (k : Nat) (c : Int) (x : Spn), okMX m x → (movR m b k c x).2.2 = 0 → okMX m (movR m b k c x).1
  | 0, c, x, _, h => by rw [movR] at h; cases h
  | k + 1, c, x, hx, h => by
    by_cases h1 : (turnR m x b).2 = 0
    · by_cases h2 : (turnR m x b).1.pos = x.pos
      · rw [mov_on h1 h2] at h ⊢
        exact mov_mx k _ _ (turnR_mx hx h1) h
      · rw [mov_done h1 h2]
        exact turnR_mx hx h1
    · rw [mov_bad h1] at h
      exact (h1 h).elim
theorem mov_le {m : Scr} {b : Int} : ∀ (k : Nat) (c : Int) (x : Spn), 0 ≤ c → 0 ≤ (movR m b k c x).2.1 ∧ (movR m b k c x).2.1 ≤ c + k
  | 0, c, x, h => by rw [movR]; dsimp only; omega
  | k + 1, c, x, h => by
    by_cases h1 : (turnR m x b).2 = 0
    · by_cases h2 : (turnR m x b).1.pos = x.pos
      · rw [mov_on h1 h2]
        have := mov_le (m := m) (b := b) k (c + 1) (turnR m x b).1 (by omega)
        omega
      · rw [mov_done h1 h2]
        dsimp only
        omega
    · rw [mov_bad h1]
      dsimp only
      omega
def plR (m : Scr) (x : Spn) (n : Int) : Int × Int := if okX m x then (if withinB n 0 10000 then (if (movR m 1 n.toNat 1 x).2.2 = 0 then (if (movR m (-1) n.toNat 1 (movR m 1 n.toNat 1 x).1).2.2 = 0 then ((movR m (-1) n.toNat 1 (movR m 1 n.toNat 1 x).1).2.1, 0) else (0, (movR m (-1) n.toNat 1 (movR m 1 n.toNat 1 x).1).2.2)) else (0, (movR m 1 n.toNat 1 x).2.2)) else (0, 2)) else (0, 1)
theorem plR_1 {m : Scr} {x : Spn} {n : Int} (h : okX m x = false) : plR m x n = (0, 1) := by unfold plR; rw [if_neg (by simp [h])]
theorem plR_2 {m : Scr} {x : Spn} {n : Int} (h : okX m x = true) (h2 : withinB n 0 10000 = false) : plR m x n = (0, 2) := by unfold plR; rw [if_pos h, if_neg (by simp [h2])]
theorem plR_3 {m : Scr} {x : Spn} {n : Int} (h : okX m x = true) (h2 : withinB n 0 10000 = true) (h3 : (movR m 1 n.toNat 1 x).2.2 ≠ 0) : plR m x n = (0, (movR m 1 n.toNat 1 x).2.2) := by unfold plR; rw [if_pos h, if_pos h2, if_neg h3]
theorem plR_4 {m : Scr} {x : Spn} {n : Int} (h : okX m x = true) (h2 : withinB n 0 10000 = true) (h3 : (movR m 1 n.toNat 1 x).2.2 = 0) (h4 : (movR m (-1) n.toNat 1 (movR m 1 n.toNat 1 x).1).2.2 ≠ 0) : plR m x n = (0, (movR m (-1) n.toNat 1 (movR m 1 n.toNat 1 x).1).2.2) := by unfold plR; rw [if_pos h, if_pos h2, if_pos h3, if_neg h4]
theorem plR_5 {m : Scr} {x : Spn} {n : Int} (h : okX m x = true) (h2 : withinB n 0 10000 = true) (h3 : (movR m 1 n.toNat 1 x).2.2 = 0) (h4 : (movR m (-1) n.toNat 1 (movR m 1 n.toNat 1 x).1).2.2 = 0) : plR m x n = ((movR m (-1) n.toNat 1 (movR m 1 n.toNat 1 x).1).2.1, 0) := by unfold plR; rw [if_pos h, if_pos h2, if_pos h3, if_pos h4]
theorem pos_eq {a b : Q} (h : (!(a.p == b.p && (a.q == b.q && true))) = false) : a = b := by
  obtain ⟨a1, a2⟩ := a
  obtain ⟨b1, b2⟩ := b
  simpa using h
theorem pos_ne {a b : Q} (h : (!(a.p == b.p && (a.q == b.q && true))) = true) : ¬a = b := by
  rintro rfl
  simp at h
abbrev XII' : ArgL (Spn × Int × Int × Unit) := .cons spnA (.cons .int (.cons .int .nil))
abbrev movSp : Sp := .hf scrL 32 XII' (fun m x (_ : Unit) _ => okMX m x.1 ∧ 0 ≤ x.2.2.1 ∧ x.2.2.1 ≤ 10000) (fun m x _ => RT (movR m x.2.1 x.2.2.1.toNat 1 x.1))

set_option maxHeartbeats 2000000 in
set_option maxRecDepth 100000 in
theorem mov_ok : Sp.ok Try.prog 15 movSp := by
  refine Sp.hf_ok (T := ⟨[(22, sturnqSp)], []⟩) follows eqokF ⟨enters Try.func22 rfl rfl, sturnq_ok, trivial⟩ [] Try.func15 rfl (by kernel_rfl) _ _ _ _ _ fun m x l E hp => ?_
  obtain ⟨⟨ma, mb⟩, mn, ⟨mc, md⟩⟩ := m
  obtain ⟨⟨x1, ⟨x2, x3⟩⟩, b, n0, u⟩ := x
  obtain ⟨hmx, h0, h1⟩ := hp
  dsimp only at hmx h0 h1
  obtain ⟨n, rfl⟩ : ∃ n : Nat, n0 = n := ⟨n0.toNat, by omega⟩
  conv => whnf
  rw [Int.toNat_natCast]
  refine ⟨fun m s => ∃ (k : Nat) (i : Int) (y : Spn) (wg : Nat → AV) (ww : Nat → Value), m = n - k ∧ k ≤ n ∧ i = (k : Int) + 1 ∧ okMX ⟨⟨ma, mb⟩, mn, ⟨mc, md⟩⟩ y ∧ movR ⟨⟨ma, mb⟩, mn, ⟨mc, md⟩⟩ b n 1 ⟨x1, ⟨x2, x3⟩⟩ = movR ⟨⟨ma, mb⟩, mn, ⟨mc, md⟩⟩ b (n - k) ((k : Int) + 1) y ∧ s = ⟨[.p 0 0, .v (ww 0), .v (.int .i64 b), .v (.int .i64 (n : Int)), .v (ww 1), .p 1 0, .v (ww 2), .v (ww 3), .p 2 0, .v (ww 4), .v (ww 5), .v (.int .i64 i), wg 0, wg 1, wg 2, wg 3, wg 4, wg 5, wg 6, wg 7, wg 8, wg 9, wg 10, wg 11, wg 12, wg 13, wg 14, wg 15, .v (ww 6), .v (ww 7), wg 16, wg 17, wg 18, wg 19, wg 20, .v (ww 8), .v (ww 9), wg 21, .v (ww 10)], [([.int .i64 ma, .int .i64 mb, .int .i64 mn, .int .i64 mc, .int .i64 md], 32), ([.int .i64 y.turned, .int .i64 y.pos.p, .int .i64 y.pos.q], 35), ([.int .i64 0, .int .i64 0, .int .i64 0], 35)], E⟩, ⟨_, 0, _, ⟨x1, ⟨x2, x3⟩⟩, nthA [_, _, _, _, _, _, _, _, _, _, _, _, _, _, _, _, _, _, _, _, _, _], nthV [_, _, _, _, _, _, _, _, _, _, _], rfl, Nat.zero_le _, rfl, hmx, rfl, rfl⟩, ?_⟩
  rintro m s ⟨k, i, y, wg, ww, rfl, hk, rfl, hy, hU, rfl⟩
  rw [hU]
  clear hU hmx
  obtain ⟨y1, ⟨y2, y3⟩⟩ := y
  by_cases hkn : k = n
  · subst hkn
    rw [Nat.sub_self]
    (repeat' ((conv => whnf); (first | with_reducible apply And.intro | (with_reducible intro hh; first | (with_reducible have hx := NewRow.self hh; clear hx) | (with_reducible have hrow := Made.row hh; have hle := Made.le hh; have hmade := hh; clear hh) | (with_reducible have hrow := Fresh.rowS hh; have hle := Fresh.leS hh; have hfr := hh; clear hh) | (with_reducible have hx := Ext.self hh; clear hx) | (with_reducible have hx := SlV.self hh; clear hx) | (with_reducible have hx := Value.self hh; clear hx) | with_reducible cases hh | skip) | (with_reducible apply AllEq.mk; intro yy hq) | with_reducible apply trivial | with_reducible apply Exists.intro () | (with_reducible apply ex_side; (first | with_reducible assumption | with_reducible apply fracs1 | with_reducible apply fracs2 | with_reducible apply fracs3 | with_reducible apply spans1 | with_reducible apply spans2 | (with_reducible apply NewRow.keep; with_reducible assumption) | (with_reducible apply RowAt.keep; with_reducible assumption) | assumption | (focus ((repeat (first | with_reducible assumption | (with_reducible apply RowAt.le; rotate_left; with_reducible assumption) | (with_reducible apply RowB.le; rotate_left; with_reducible assumption))); done)))) | (with_reducible apply ex_side (a := (_, _)); (focus (with_reducible apply And.intro <;> (focus ((repeat (first | with_reducible assumption | (with_reducible apply RowAt.le; rotate_left; with_reducible assumption) | (with_reducible apply RowB.le; rotate_left; with_reducible assumption))); done))))))); (all_goals (conv => whnf)))
    (all_goals (try dsimp only [Q.eta, Sn.eta, SlV.eta] at *)); (all_goals (first | exact Side.mk trivial | with_reducible exact Side.mk rfl | exact Side.mk (fun _ _ h => h) | exact Side.mk (Made.le (by assumption)) | refine Side.mk ?_ | refine Don.mk ?_ | skip))
    all_goals first
      | (exfalso; have := of_decide_eq_true (by assumption : decide ((k : Int) + 1 ≤ (k : Int)) = true); omega)
      | exact ⟨rfl, rfl⟩
  · obtain ⟨j, hj⟩ : ∃ j, n - k = j + 1 := ⟨n - k - 1, by omega⟩
    rw [hj]
    (repeat' ((conv => whnf); (first | with_reducible apply And.intro | (with_reducible intro hh; first | (with_reducible have hx := NewRow.self hh; clear hx) | (with_reducible have hrow := Made.row hh; have hle := Made.le hh; have hmade := hh; clear hh) | (with_reducible have hrow := Fresh.rowS hh; have hle := Fresh.leS hh; have hfr := hh; clear hh) | (with_reducible have hx := Ext.self hh; clear hx) | (with_reducible have hx := SlV.self hh; clear hx) | (with_reducible have hx := Value.self hh; clear hx) | with_reducible cases hh | skip) | (with_reducible apply AllEq.mk; intro yy hq) | with_reducible apply trivial | with_reducible apply Exists.intro () | (with_reducible apply ex_side; (first | with_reducible assumption | with_reducible apply fracs1 | with_reducible apply fracs2 | with_reducible apply fracs3 | with_reducible apply spans1 | with_reducible apply spans2 | (with_reducible apply NewRow.keep; with_reducible assumption) | (with_reducible apply RowAt.keep; with_reducible assumption) | assumption | (focus ((repeat (first | with_reducible assumption | (with_reducible apply RowAt.le; rotate_left; with_reducible assumption) | (with_reducible apply RowB.le; rotate_left; with_reducible assumption))); done)))) | (with_reducible apply ex_side (a := (_, _)); (focus (with_reducible apply And.intro <;> (focus ((repeat (first | with_reducible assumption | (with_reducible apply RowAt.le; rotate_left; with_reducible assumption) | (with_reducible apply RowB.le; rotate_left; with_reducible assumption))); done))))))); (all_goals (conv => whnf)))
    (all_goals (try dsimp only [Q.eta, Sn.eta, SlV.eta] at *)); (all_goals (first | exact Side.mk trivial | with_reducible exact Side.mk rfl | exact Side.mk (fun _ _ h => h) | exact Side.mk (Made.le (by assumption)) | refine Side.mk ?_ | refine Don.mk ?_ | skip))
    all_goals first
      | exact hy
      | (exfalso; have := of_decide_eq_false (by assumption : decide ((k : Int) + 1 ≤ (n : Int)) = false); omega)
      | skip
    · subst hq
      rw [mov_bad (by simpa using hh)]
      exact ⟨rfl, rfl⟩
    · rename_i hc
      have h2 := pos_ne (b := ⟨y2, y3⟩) hh
      have h3 : yy.2 = 0 := by simpa using hc
      subst hq
      rw [mov_done h3 h2]
      exact ⟨rfl, rfl⟩
    · have h2 := pos_eq (b := ⟨y2, y3⟩) (by assumption : (!(yy.1.pos.p == y2 && (yy.1.pos.q == y3 && true))) = false)
      have h3 : yy.2 = 0 := by simpa using (by assumption : (yy.2 != 0) = false)
      subst hq
      refine ⟨_, ?_, k + 1, _, _, nthA [_, _, _, _, _, _, _, _, _, _, _, _, _, _, _, _, _, _, _, _, _, _], nthV [_, _, _, _, _, _, _, _, _, _, _], rfl, by omega, by rw [wrap_in (by omega) (by omega)]; rfl, turnR_mx hy h3, ?_, rfl⟩
      · omega
      · rw [mov_on h3 h2, show n - (k + 1) = j by omega]
        rfl
abbrev XIL : ArgL (Scr × Spn × Int × Unit) := .cons scrA (.cons spnA (.cons .int .nil))
abbrev sPlSp : Sp := .pf XIL (fun _ => True) (fun x => RI (plR x.1 x.2.1 x.2.2.1))
set_option maxHeartbeats 2000000 in
set_option maxRecDepth 100000 in
theorem spl_ok : Sp.ok Try.prog 5 sPlSp := by
  refine Sp.pf_ok (T := ⟨[(13, spinPSp), (14, withinSp), (15, movSp)], []⟩) follows eqok0 ⟨enters Try.func13 rfl rfl, spinP_ok, enters Try.func14 rfl rfl, in_ok, enters Try.func15 rfl rfl, mov_ok, trivial⟩ [] Try.func5 rfl (by kernel_rfl) _ _ _ fun x E hp => ?_
  obtain ⟨⟨⟨ma, mb⟩, mn, ⟨mc, md⟩⟩, ⟨x1, ⟨x2, x3⟩⟩, n, u⟩ := x
  (repeat' ((conv => whnf); (first | with_reducible apply And.intro | (with_reducible intro hh; first | (with_reducible have hx := NewRow.self hh; clear hx) | (with_reducible have hrow := Made.row hh; have hle := Made.le hh; have hmade := hh; clear hh) | (with_reducible have hrow := Fresh.rowS hh; have hle := Fresh.leS hh; have hfr := hh; clear hh) | (with_reducible have hx := Ext.self hh; clear hx) | (with_reducible have hx := SlV.self hh; clear hx) | (with_reducible have hx := Value.self hh; clear hx) | with_reducible cases hh | skip) | (with_reducible apply AllEq.mk; intro yy hq) | with_reducible apply trivial | with_reducible apply Exists.intro () | (with_reducible apply ex_side; (first | with_reducible assumption | with_reducible apply fracs1 | with_reducible apply fracs2 | with_reducible apply fracs3 | with_reducible apply spans1 | with_reducible apply spans2 | (with_reducible apply NewRow.keep; with_reducible assumption) | (with_reducible apply RowAt.keep; with_reducible assumption) | assumption | (focus ((repeat (first | with_reducible assumption | (with_reducible apply RowAt.le; rotate_left; with_reducible assumption) | (with_reducible apply RowB.le; rotate_left; with_reducible assumption))); done)))) | (with_reducible apply ex_side (a := (_, _)); (focus (with_reducible apply And.intro <;> (focus ((repeat (first | with_reducible assumption | (with_reducible apply RowAt.le; rotate_left; with_reducible assumption) | (with_reducible apply RowB.le; rotate_left; with_reducible assumption))); done))))))); (all_goals (conv => whnf)))
  (all_goals (try dsimp only [Q.eta, Sn.eta, SlV.eta] at *)); (all_goals (first | exact Side.mk trivial | with_reducible exact Side.mk rfl | exact Side.mk (fun _ _ h => h) | exact Side.mk (Made.le (by assumption)) | refine Side.mk ?_ | refine Don.mk ?_ | skip))
  all_goals try (rw [plR_1 (not_t hh)] <;> rfl)
  all_goals have hx := not_f (by assumption : (!okX ⟨⟨ma, mb⟩, mn, ⟨mc, md⟩⟩ ⟨x1, ⟨x2, x3⟩⟩) = false)
  all_goals try (rw [plR_2 hx (not_t hh)] <;> rfl)
  all_goals have hw := not_f (by assumption : (!withinB n 0 10000) = false)
  all_goals have hwi := within_iff.1 hw
  all_goals try exact ⟨okX_mx hx, hwi⟩
  all_goals try (rw [plR_3 hx hw (by simpa using hh)] <;> rfl)
  all_goals have h3 : (movR ⟨⟨ma, mb⟩, mn, ⟨mc, md⟩⟩ 1 n.toNat 1 ⟨x1, ⟨x2, x3⟩⟩).2.2 = 0 := by simpa using (by assumption : ((movR ⟨⟨ma, mb⟩, mn, ⟨mc, md⟩⟩ 1 n.toNat 1 ⟨x1, ⟨x2, x3⟩⟩).2.2 != 0) = false)
  all_goals first
    | exact ⟨mov_mx _ _ _ (okX_mx hx) h3, hwi⟩
    | (have h4 : (movR ⟨⟨ma, mb⟩, mn, ⟨mc, md⟩⟩ (-1) n.toNat 1 (movR ⟨⟨ma, mb⟩, mn, ⟨mc, md⟩⟩ 1 n.toNat 1 ⟨x1, ⟨x2, x3⟩⟩).1).2.2 ≠ 0 := by simpa using hh
       rw [plR_4 hx hw h3 h4] <;> rfl)
    | (have h4 : (movR ⟨⟨ma, mb⟩, mn, ⟨mc, md⟩⟩ (-1) n.toNat 1 (movR ⟨⟨ma, mb⟩, mn, ⟨mc, md⟩⟩ 1 n.toNat 1 ⟨x1, ⟨x2, x3⟩⟩).1).2.2 = 0 := by simpa using hh
       rw [plR_5 hx hw h3 h4] <;> rfl)
/-! the library's half -/
/-- A function that closes over one pointer. -/
def Arg.clo1 (g : FuncId) : Arg Addr where
  enc c := .func (.func g) #[] #[.pointer (some c)]
  dec | .func (.func h) a ⟨[.pointer (some p)]⟩ => match Nat.beq h g && Nat.beq a.size 0 with
        | true => some p
        | false => none
      | _ => none
  ok := by
    intro v x h
    split at h
    · split at h
      · rename_i hb
        rw [Bool.and_eq_true] at hb
        obtain rfl := Nat.eq_of_beq_eq_true hb.1
        cases h
        have := Array.eq_empty_of_size_eq_zero (Nat.eq_of_beq_eq_true hb.2)
        rw [this]
      · cases h
    · cases h
abbrev XP1 : ArgL (Spn × Addr × Unit) := .cons spnA (.cons Arg.ptr .nil)
abbrev cloPSp : Sp := .rf XP1 (fun x (l : Q) E => PtrAt Q.cells x.2.1 l E) (fun x l => .bool (stopP l x.1))
set_option maxRecDepth 100000 in
theorem cloP_ok : Sp.ok Try.prog 19 cloPSp := by
  refine Sp.rf_ok (T := ⟨[], []⟩) follows eqokF trivial [] Try.func19 rfl (by kernel_rfl) _ _ _ fun x l E hp => ?_
  obtain ⟨⟨t, ⟨p, q⟩⟩, pb, u⟩ := x
  obtain ⟨a, b⟩ := l
  have f0 : E (pb.add 0) = some (.int .i64 a) := hp 0 _ rfl
  have f1 : E (pb.add (0 + 1)) = some (.int .i64 b) := hp 1 _ rfl
  (repeat' ((conv => whnf); (first | with_reducible apply And.intro | (with_reducible intro hh; first | (with_reducible have hx := NewRow.self hh; clear hx) | (with_reducible have hrow := Made.row hh; have hle := Made.le hh; have hmade := hh; clear hh) | (with_reducible have hrow := Fresh.rowS hh; have hle := Fresh.leS hh; have hfr := hh; clear hh) | (with_reducible have hx := Ext.self hh; clear hx) | (with_reducible have hx := SlV.self hh; clear hx) | (with_reducible have hx := Value.self hh; clear hx) | with_reducible cases hh | skip) | (with_reducible apply AllEq.mk; intro yy hq) | with_reducible apply trivial | with_reducible apply Exists.intro () | (with_reducible apply ex_side; (first | with_reducible assumption | with_reducible apply fracs1 | with_reducible apply fracs2 | with_reducible apply fracs3 | with_reducible apply spans1 | with_reducible apply spans2 | (with_reducible apply NewRow.keep; with_reducible assumption) | (with_reducible apply RowAt.keep; with_reducible assumption) | assumption | (focus ((repeat (first | with_reducible assumption | (with_reducible apply RowAt.le; rotate_left; with_reducible assumption) | (with_reducible apply RowB.le; rotate_left; with_reducible assumption))); done)))) | (with_reducible apply ex_side (a := (_, _)); (focus (with_reducible apply And.intro <;> (focus ((repeat (first | with_reducible assumption | (with_reducible apply RowAt.le; rotate_left; with_reducible assumption) | (with_reducible apply RowB.le; rotate_left; with_reducible assumption))); done))))))); (all_goals (conv => whnf)))
  (all_goals (try dsimp only [Q.eta, Sn.eta, SlV.eta] at *)); (all_goals (first | exact Side.mk trivial | with_reducible exact Side.mk rfl | exact Side.mk (fun _ _ h => h) | exact Side.mk (Made.le (by assumption)) | refine Side.mk ?_ | refine Don.mk ?_ | skip))
  refine congrArg (fun z => AV.v (Value.bool z)) ?_
  by_cases h : p = a <;> by_cases h' : q = b <;> simp [stopP, h, h']
abbrev UP : ArgL (Scr × Spn × Int × Int × Addr × Unit) := .cons scrA (.cons spnA (.cons .int (.cons .int (.cons (Arg.clo1 19) .nil))))
abbrev untPSp : Sp := .rf UP (fun x (l : Q) E => okMX x.1 x.2.1 ∧ PtrAt Q.cells x.2.2.2.2.1 l E ∧ Sg x.2.2.1 ∧ 0 ≤ x.2.2.2.1 ∧ x.2.2.2.1 ≤ 10000) (fun x l => RT (untilR x.1 x.2.2.1 (stopP l) x.2.2.2.1.toNat 0 x.2.1))

set_option maxRecDepth 100000 in
theorem untP_ok : Sp.ok Try.prog 18 untPSp := by
  refine Sp.rf_ok (T := ⟨[(19, cloPSp), (32, turnqSp)], []⟩) follows eqok0 ⟨enters Try.func19 rfl rfl, cloP_ok, enters Try.func32 rfl rfl, turnq_ok, trivial⟩ [] Try.func18 rfl (by kernel_rfl) _ _ _ fun x l E hp => ?_
  obtain ⟨m, x0, b, n0, pb, u⟩ := x
  obtain ⟨hmx, h2, h5, h6, h7⟩ := hp
  dsimp only at hmx h2 h5 h6 h7
  obtain ⟨n, rfl⟩ : ∃ n : Nat, n0 = n := ⟨n0.toNat, by omega⟩
  obtain ⟨⟨ma, mb⟩, mn, ⟨mc, md⟩⟩ := m
  obtain ⟨x1, ⟨x2, x3⟩⟩ := x0
  conv => whnf
  refine ⟨fun m s => ∃ (k : Nat) (i : Int) (y : Spn) (wg : Nat → AV) (ww : Nat → Value), m = n - k ∧ k ≤ n ∧ i = (k : Int) ∧ okMX ⟨⟨ma, mb⟩, mn, ⟨mc, md⟩⟩ y ∧ untilR ⟨⟨ma, mb⟩, mn, ⟨mc, md⟩⟩ b (stopP l) n 0 ⟨x1, ⟨x2, x3⟩⟩ = untilR ⟨⟨ma, mb⟩, mn, ⟨mc, md⟩⟩ b (stopP l) (n - k) (k : Int) y ∧ s = ⟨[.v (ww 0), .v (ww 1), .v (.int .i64 b), .v (.int .i64 (n : Int)), .v (.func (.func 19) #[] #[.pointer (some pb)]), .p 0 0, .p 1 0, .v (ww 2), .v (ww 3), .v (ww 4), .p 2 0, .v (ww 5), .v (ww 6), .v (.int .i64 i), wg 0, wg 1, wg 2, wg 3, wg 4, wg 5, wg 6, wg 7, wg 8, .v (ww 7), wg 9, wg 10, wg 11, wg 12, wg 13, wg 14, wg 15, wg 16, wg 17, .v (ww 8), .v (ww 9), wg 18, wg 19, wg 20, .v (ww 10), .v (ww 11), .v (ww 12), .v (ww 13)], [([.int .i64 ma, .int .i64 mb, .int .i64 mn, .int .i64 mc, .int .i64 md], 32), ([.int .i64 y.turned, .int .i64 y.pos.p, .int .i64 y.pos.q], 35), ([.int .i64 0, .int .i64 0, .int .i64 0], 35)], E⟩, ⟨_, 0, _, ⟨x1, ⟨x2, x3⟩⟩, nthA [_, _, _, _, _, _, _, _, _, _, _, _, _, _, _, _, _, _, _, _, _], nthV [_, _, _, _, _, _, _, _, _, _, _, _, _, _], rfl, Nat.zero_le _, rfl, hmx, rfl, rfl⟩, ?_⟩
  rintro m s ⟨k, i, y, wg, ww, rfl, hk, rfl, hy, hU, rfl⟩
  rw [Int.toNat_natCast, hU]
  clear hU hmx
  obtain ⟨y1, ⟨y2, y3⟩⟩ := y
  have hst : stopP l ⟨y1, ⟨y2, y3⟩⟩ = stopP l ⟨y1, ⟨y2, y3⟩⟩ := rfl
  by_cases hkn : k = n
  · subst hkn
    rw [Nat.sub_self]
    conv => whnf
    refine ⟨l, Side.mk h2, ?_⟩
    (repeat' ((conv => whnf); (first | with_reducible apply And.intro | (with_reducible intro hh; first | (with_reducible have hx := NewRow.self hh; clear hx) | (with_reducible have hrow := Made.row hh; have hle := Made.le hh; have hmade := hh; clear hh) | (with_reducible have hrow := Fresh.rowS hh; have hle := Fresh.leS hh; have hfr := hh; clear hh) | (with_reducible have hx := Ext.self hh; clear hx) | (with_reducible have hx := SlV.self hh; clear hx) | (with_reducible have hx := Value.self hh; clear hx) | with_reducible cases hh | skip) | (with_reducible apply AllEq.mk; intro yy hq) | with_reducible apply trivial | with_reducible apply Exists.intro () | (with_reducible apply ex_side; (first | with_reducible assumption | with_reducible apply fracs1 | with_reducible apply fracs2 | with_reducible apply fracs3 | with_reducible apply spans1 | with_reducible apply spans2 | (with_reducible apply NewRow.keep; with_reducible assumption) | (with_reducible apply RowAt.keep; with_reducible assumption) | assumption | (focus ((repeat (first | with_reducible assumption | (with_reducible apply RowAt.le; rotate_left; with_reducible assumption) | (with_reducible apply RowB.le; rotate_left; with_reducible assumption))); done)))) | (with_reducible apply ex_side (a := (_, _)); (focus (with_reducible apply And.intro <;> (focus ((repeat (first | with_reducible assumption | (with_reducible apply RowAt.le; rotate_left; with_reducible assumption) | (with_reducible apply RowB.le; rotate_left; with_reducible assumption))); done))))))); (all_goals (conv => whnf)))
    (all_goals (try dsimp only [Q.eta, Sn.eta, SlV.eta] at *)); (all_goals (first | exact Side.mk trivial | with_reducible exact Side.mk rfl | exact Side.mk (fun _ _ h => h) | exact Side.mk (Made.le (by assumption)) | refine Side.mk ?_ | refine Don.mk ?_ | skip))
    all_goals subst_vars
    all_goals first
      | (exfalso; have h9 := (by assumption : ((k : Int) == (k : Int)) = false); simp at h9; done)
      | (have h9 := hst.trans (not_t (by assumption))
         rw [until_end h9]; rfl)
      | (have h9 := hst.trans (not_f hh)
         rw [until_stop h9, wrap_kb h5 (by omega)]; rfl)
  · obtain ⟨j, hj⟩ : ∃ j, n - k = j + 1 := ⟨n - k - 1, by omega⟩
    rw [hj]
    conv => whnf
    refine ⟨l, Side.mk h2, ?_⟩
    (repeat' ((conv => whnf); (first | with_reducible apply And.intro | (with_reducible intro hh; first | (with_reducible have hx := NewRow.self hh; clear hx) | (with_reducible have hrow := Made.row hh; have hle := Made.le hh; have hmade := hh; clear hh) | (with_reducible have hrow := Fresh.rowS hh; have hle := Fresh.leS hh; have hfr := hh; clear hh) | (with_reducible have hx := Ext.self hh; clear hx) | (with_reducible have hx := SlV.self hh; clear hx) | (with_reducible have hx := Value.self hh; clear hx) | with_reducible cases hh | skip) | (with_reducible apply AllEq.mk; intro yy hq) | with_reducible apply trivial | with_reducible apply Exists.intro () | (with_reducible apply ex_side; (first | with_reducible assumption | with_reducible apply fracs1 | with_reducible apply fracs2 | with_reducible apply fracs3 | with_reducible apply spans1 | with_reducible apply spans2 | (with_reducible apply NewRow.keep; with_reducible assumption) | (with_reducible apply RowAt.keep; with_reducible assumption) | assumption | (focus ((repeat (first | with_reducible assumption | (with_reducible apply RowAt.le; rotate_left; with_reducible assumption) | (with_reducible apply RowB.le; rotate_left; with_reducible assumption))); done)))) | (with_reducible apply ex_side (a := (_, _)); (focus (with_reducible apply And.intro <;> (focus ((repeat (first | with_reducible assumption | (with_reducible apply RowAt.le; rotate_left; with_reducible assumption) | (with_reducible apply RowB.le; rotate_left; with_reducible assumption))); done))))))); (all_goals (conv => whnf)))
    (all_goals (try dsimp only [Q.eta, Sn.eta, SlV.eta] at *)); (all_goals (first | exact Side.mk trivial | with_reducible exact Side.mk rfl | exact Side.mk (fun _ _ h => h) | exact Side.mk (Made.le (by assumption)) | refine Side.mk ?_ | refine Don.mk ?_ | skip))
    all_goals subst_vars
    all_goals first
      | (exfalso; have h9 := (by assumption : ((k : Int) == (n : Int)) = true); simp at h9; omega)
      | exact hy
      | (have h9 := hst.trans (not_f hh)
         rw [until_stop h9, wrap_kb h5 (by omega)]; rfl)
      | skip
    · have h9 := hst.trans (not_t (by assumption))
      rw [until_bad h9 hh]
      rfl
    · have h9 := hst.trans (not_t (by assumption))
      have h8 := (by assumption : ((turnR ⟨⟨ma, mb⟩, mn, ⟨mc, md⟩⟩ ⟨y1, ⟨y2, y3⟩⟩ b).2 != 0) = false)
      have h7' : (turnR ⟨⟨ma, mb⟩, mn, ⟨mc, md⟩⟩ ⟨y1, ⟨y2, y3⟩⟩ b).2 = 0 := by simpa using h8
      refine ⟨_, ?_, k + 1, _, _, nthA [_, _, _, _, _, _, _, _, _, _, _, _, _, _, _, _, _, _, _, _, _], nthV [_, _, _, _, _, _, _, _, _, _, _, _, _, _], rfl, by omega, by rw [wrap_in (by omega) (by omega)]; rfl, turnR_mx hy h7', ?_, rfl⟩
      · omega
      · rw [until_step h9 h8, show n - (k + 1) = j by omega]
        rfl

end Go.Proofs.Ytjibkphhlflpeaa
