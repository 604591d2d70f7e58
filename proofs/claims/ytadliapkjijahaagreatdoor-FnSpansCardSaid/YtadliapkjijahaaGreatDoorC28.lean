/- Contracts of the functions on lists of spans and their hull, for all lists that lie in memory; conditions: the bounds that each names. -/
import Derived.Test.YtadliapkjijahaaGreatDoorAb
import Derived.Test.YtadliapkjijahaaGreatDoorC1
import Derived.Test.YtadliapkjijahaaGreatDoorC2
import Derived.Test.YtadliapkjijahaaGreatDoorC3
import Derived.Test.YtadliapkjijahaaGreatDoorC4
import Derived.Test.YtadliapkjijahaaGreatDoorC5
import Derived.Test.YtadliapkjijahaaGreatDoorCL
import Derived.Test.YtadliapkjijahaaGreatDoorC6
import Derived.Test.YtadliapkjijahaaGreatDoorC7
import Derived.Test.YtadliapkjijahaaGreatDoorC8
import Derived.Test.YtadliapkjijahaaGreatDoorC9
import Derived.Test.YtadliapkjijahaaGreatDoorCO
import Derived.Test.YtadliapkjijahaaGreatDoorC10
import Derived.Test.YtadliapkjijahaaGreatDoorC12
import Derived.Test.YtadliapkjijahaaGreatDoorProg
set_option linter.unusedVariables false
set_option linter.unusedSimpArgs false
namespace Go.Proofs.YtadliapkjijahaaGreatDoor
open Ab

abbrev sntoSp : Sp := .nf FS (fun x (l : List Sn) E => RowB Sn.cells 4 x.1 l E) (fun _ _ y => SlV.v y) (fun _ l y E E' => Made 27 4 Sn.cells y l E E')
abbrev sneqSp : Sp := .rf SS (fun x (l : List Sn × List Sn) E => RowAt Sn.cells 4 x.1 l.1 E ∧ RowAt Sn.cells 4 x.2.1 l.2 E) (fun _ l => .bool (decide (l.1 = l.2)))

/-! a span behind a pointer -/
abbrev AP : ArgL (Addr × Unit) := .cons .ptr .nil
abbrev spanXSp : Sp := .rf AP (fun x (s : Sn) E => PtrAt Sn.cells x.1 s E) (fun _ s => .bool (okS s))
set_option maxRecDepth 100000 in
theorem spanX_ok : Sp.ok Tryz.prog 106 spanXSp := by
  refine Sp.rf_ok (T := ⟨[(83, validSp), (92, cmpSp)], []⟩) follows eqok0 ⟨enters Tryz.func83 rfl rfl, spok_ok, enters Tryz.func92 rfl rfl, spcmp_ok, trivial⟩ [(1, .take 0 (.take 1 (.take 2 (.take 3 (.alt 4 (.take 5 (.take 6 (.take 7 (.take 8 (.take 9 (.alt 10 (.take 11 (.take 12 (.take 13 (.take 14 (.take 15 (.take 16 (.take 17 (.take 18 (.take 19 (.take 20 (.alt 21 (.take 22 (.take 23 (.take 24 (.done)))) (.last)))))))))))) (.last))))))) (.last))))))] Tryz.func106 rfl (by kernel_rfl) _ _ _ fun x s E hp => ?_
  obtain ⟨a, u⟩ := x
  obtain ⟨⟨p, q⟩, ⟨p', q'⟩⟩ := s
  dsimp only at hp
  have g0 : E ((a.add 0).add 0) = some (.int .i64 p) := by rw [Go.Deep.add_add]; exact hp 0 _ rfl
  have g1 : E ((a.add 0).add (0 + 1)) = some (.int .i64 q) := by rw [Go.Deep.add_add]; exact hp 1 _ rfl
  have g2 : E ((a.add 2).add 0) = some (.int .i64 p') := by rw [Go.Deep.add_add]; exact hp 2 _ rfl
  have g3 : E ((a.add 2).add (0 + 1)) = some (.int .i64 q') := by rw [Go.Deep.add_add]; exact hp 3 _ rfl
  (repeat' ((conv => whnf); (first | with_reducible apply And.intro | (with_reducible intro hh; first | (with_reducible have hx := NewRow.self hh; clear hx) | (with_reducible have hrow := Made.row hh; have hle := Made.le hh; have hmade := hh; clear hh) | (with_reducible have hrow := Fresh.rowS hh; have hle := Fresh.leS hh; have hfr := hh; clear hh) | (with_reducible have hx := Ext.self hh; clear hx) | (with_reducible have hx := SlV.self hh; clear hx) | (with_reducible have hx := Value.self hh; clear hx) | with_reducible cases hh | skip) | (with_reducible apply AllEq.mk; intro yy hq) | with_reducible apply trivial | with_reducible apply Exists.intro () | (with_reducible apply ex_side; (first | with_reducible assumption | with_reducible apply fracs1 | with_reducible apply fracs2 | with_reducible apply fracs3 | with_reducible apply spans1 | with_reducible apply spans2 | (with_reducible apply NewRow.keep; with_reducible assumption) | (with_reducible apply RowAt.keep; with_reducible assumption) | assumption | (focus ((repeat (first | with_reducible assumption | (with_reducible apply RowAt.le; rotate_left; with_reducible assumption) | (with_reducible apply RowB.le; rotate_left; with_reducible assumption))); done)))) | (with_reducible apply ex_side (a := (_, _)); (focus (with_reducible apply And.intro <;> (focus ((repeat (first | with_reducible assumption | (with_reducible apply RowAt.le; rotate_left; with_reducible assumption) | (with_reducible apply RowB.le; rotate_left; with_reducible assumption))); done))))))); (all_goals (conv => whnf)))
  (all_goals (try dsimp only [Q.eta, Sn.eta, SlV.eta] at *)); (all_goals (first | exact Side.mk trivial | with_reducible exact Side.mk rfl | exact Side.mk (fun _ _ h => h) | exact Side.mk (Made.le (by assumption)) | refine Side.mk ?_ | refine Don.mk ?_ | skip))
  · rename_i h1
    exact ⟨h1, hh⟩
  all_goals simp_all [okS]
/-! the hull -/
def hulF (b : Sn) : List Sn → Sn
  | [] => b
  | s :: r => hulF ⟨lesQ b.lo s.lo, greQ b.hi s.hi⟩ r
def hulR (l : List Sn) : Sn × Int := if allS l then (if l.length = 0 ∨ 64 < l.length then (⟨⟨0, 0⟩, ⟨0, 0⟩⟩, 2) else (hulF (l.getD 0 ⟨⟨0, 0⟩, ⟨0, 0⟩⟩) l, 0)) else (⟨⟨0, 0⟩, ⟨0, 0⟩⟩, 1)
abbrev hulSp : Sp := .rf FS (fun x (l : List Sn) E => SpansAt x.1 l E) (fun _ l => RS (hulR l))
theorem allS_at {l : List Sn} (h : allS l = true) {k : Nat} {s : Sn} (hk : l[k]? = some s) : okS s = true := by
  unfold allS at h
  rw [List.all_eq_true] at h
  exact h s (List.mem_of_getElem? hk)
theorem drop_at2 {α : Type} {l : List α} {k : Nat} {x : α} (h : l[k]? = some x) : l.drop k = x :: l.drop (k + 1) := by
  rw [List.drop_eq_getElem_cons (List.getElem?_eq_some_iff.1 h).1, (List.getElem?_eq_some_iff.1 h).2]
theorem cmpQ_self (a : Q) : cmpQ a a = 0 := by unfold cmpQ; simp
theorem hulF_self (b : Sn) (r : List Sn) : hulF b (b :: r) = hulF b r := by
  rw [hulF]
  unfold lesQ greQ
  simp [cmpQ_self]
theorem getD0 {α : Type} {l : List α} {d x : α} (h : l[0]? = some x) : l.getD 0 d = x := by rw [List.getD_eq_getElem?_getD, h]; rfl
theorem hulR_no {l : List Sn} (h : allS l = false) : hulR l = (⟨⟨0, 0⟩, ⟨0, 0⟩⟩, 1) := by unfold hulR; rw [if_neg (by simp [h])]
theorem hulR_len {l : List Sn} (h : allS l = true) (hl : l.length = 0 ∨ 64 < l.length) : hulR l = (⟨⟨0, 0⟩, ⟨0, 0⟩⟩, 2) := by unfold hulR; rw [if_pos h, if_pos hl]
theorem hulR_ok {l : List Sn} (h : allS l = true) (hl : ¬ (l.length = 0 ∨ 64 < l.length)) {s : Sn} (hs : l[0]? = some s) : hulR l = (hulF s l, 0) := by unfold hulR; rw [if_pos h, if_neg hl, getD0 hs]
theorem okP_hul {b s : Sn} (hb : okP b) (hs : okP s) : okP ⟨lesQ b.lo s.lo, greQ b.hi s.hi⟩ := ⟨lesQ_ok hb.1 hs.1, greQ_ok hb.2 hs.2⟩
theorem sn_at0 {s : SlV} {l : List Sn} {E : Ext} (h : SpansAt s l E) {a : Addr} (ha : s.a = some a) {q : Sn} (hk : l[0]? = some q) : E ((a.add ((0 : Int).toNat * 4)).add 0) = some (.int .i64 q.lo.p) ∧ E ((a.add ((0 : Int).toNat * 4)).add (0 + 1)) = some (.int .i64 q.lo.q) ∧ E ((a.add ((0 : Int).toNat * 4)).add (0 + 1 + 1)) = some (.int .i64 q.hi.p) ∧ E ((a.add ((0 : Int).toNat * 4)).add (0 + 1 + 1 + 1)) = some (.int .i64 q.hi.q) := SpansAt.at h ha hk

set_option maxHeartbeats 2000000 in
set_option maxRecDepth 100000 in
theorem hul_ok : Sp.ok Tryz.prog 14 hulSp := by
  refine Sp.rf_ok (T := ⟨[(48, spsSp), (55, lesSp), (56, greSp)], []⟩) follows eqok0 ⟨enters Tryz.func48 rfl rfl, sps_ok, enters Tryz.func55 rfl rfl, les_ok, enters Tryz.func56 rfl rfl, gre_ok, trivial⟩ [(9, .take 0 (.take 2 (.take 3 (.take 5 (.take 7 (.take 8 (.alt 1 (.alt 4 (.alt 6 (.alt 9 (.take 10 (.alt 11 (.done) (.last))) (.last)) (.last)) (.alt 6 (.alt 4 (.alt 9 (.take 10 (.alt 11 (.done) (.last))) (.last)) (.last)) (.last))) (.alt 6 (.alt 1 (.alt 4 (.alt 9 (.take 10 (.alt 11 (.done) (.last))) (.last)) (.last)) (.last)) (.last)))))))))] Tryz.func14 rfl (by kernel_rfl) _ _ _ fun x l E hp => ?_
  obtain ⟨⟨sa, n, c⟩, u⟩ := x
  have hp0 := hp
  obtain ⟨hn, hmax, hnone, _⟩ := hp
  dsimp only at hn hmax hnone hp0
  by_cases hA : allS l = true
  · by_cases hl : l.length = 0 ∨ 64 < l.length
    · (repeat' ((conv => whnf); (first | with_reducible apply And.intro | (with_reducible intro hh; first | (with_reducible have hx := NewRow.self hh; clear hx) | (with_reducible have hrow := Made.row hh; have hle := Made.le hh; have hmade := hh; clear hh) | (with_reducible have hrow := Fresh.rowS hh; have hle := Fresh.leS hh; have hfr := hh; clear hh) | (with_reducible have hx := Ext.self hh; clear hx) | (with_reducible have hx := SlV.self hh; clear hx) | (with_reducible have hx := Value.self hh; clear hx) | with_reducible cases hh | skip) | (with_reducible apply AllEq.mk; intro yy hq) | with_reducible apply trivial | with_reducible apply Exists.intro () | (with_reducible apply ex_side; (first | with_reducible assumption | with_reducible apply fracs1 | with_reducible apply fracs2 | with_reducible apply fracs3 | with_reducible apply spans1 | with_reducible apply spans2 | (with_reducible apply NewRow.keep; with_reducible assumption) | (with_reducible apply RowAt.keep; with_reducible assumption) | assumption | (focus ((repeat (first | with_reducible assumption | (with_reducible apply RowAt.le; rotate_left; with_reducible assumption) | (with_reducible apply RowB.le; rotate_left; with_reducible assumption))); done)))) | (with_reducible apply ex_side (a := (_, _)); (focus (with_reducible apply And.intro <;> (focus ((repeat (first | with_reducible assumption | (with_reducible apply RowAt.le; rotate_left; with_reducible assumption) | (with_reducible apply RowB.le; rotate_left; with_reducible assumption))); done))))))); (all_goals (conv => whnf)))
      (all_goals (try dsimp only [Q.eta, Sn.eta, SlV.eta] at *)); (all_goals (first | exact Side.mk trivial | with_reducible exact Side.mk rfl | exact Side.mk (fun _ _ h => h) | exact Side.mk (Made.le (by assumption)) | refine Side.mk ?_ | refine Don.mk ?_ | skip))
      all_goals first | (rw [hulR_len hA hl]; rfl) | (exfalso; rw [hA] at hh; exact absurd hh (by decide)) | (exfalso; have h9 := (by assumption : decide ((n : Int) > 64) = false); have h9 := of_decide_eq_false h9; have h8 := (by assumption : ((n : Int) == 0) = false); simp at h8; omega)
    · rcases hk0 : l[0]? with _ | s0
      · have := List.getElem?_eq_none_iff.1 hk0
        omega
      cases sa with
      | none => rw [hnone rfl] at hk0; cases hk0
      | some a =>
      obtain ⟨h0, h1, h2, h3⟩ := sn_at0 hp0 (a := a) rfl hk0
      have hok0 := okS_p (allS_at hA hk0)
      rw [hulR_ok hA hl hk0]
      (repeat' ((conv => whnf); (first | with_reducible apply And.intro | (with_reducible intro hh; first | (with_reducible have hx := NewRow.self hh; clear hx) | (with_reducible have hrow := Made.row hh; have hle := Made.le hh; have hmade := hh; clear hh) | (with_reducible have hrow := Fresh.rowS hh; have hle := Fresh.leS hh; have hfr := hh; clear hh) | (with_reducible have hx := Ext.self hh; clear hx) | (with_reducible have hx := SlV.self hh; clear hx) | (with_reducible have hx := Value.self hh; clear hx) | with_reducible cases hh | skip) | (with_reducible apply AllEq.mk; intro yy hq) | with_reducible apply trivial | with_reducible apply Exists.intro () | (with_reducible apply ex_side; (first | with_reducible assumption | with_reducible apply fracs1 | with_reducible apply fracs2 | with_reducible apply fracs3 | with_reducible apply spans1 | with_reducible apply spans2 | (with_reducible apply NewRow.keep; with_reducible assumption) | (with_reducible apply RowAt.keep; with_reducible assumption) | assumption | (focus ((repeat (first | with_reducible assumption | (with_reducible apply RowAt.le; rotate_left; with_reducible assumption) | (with_reducible apply RowB.le; rotate_left; with_reducible assumption))); done)))) | (with_reducible apply ex_side (a := (_, _)); (focus (with_reducible apply And.intro <;> (focus ((repeat (first | with_reducible assumption | (with_reducible apply RowAt.le; rotate_left; with_reducible assumption) | (with_reducible apply RowB.le; rotate_left; with_reducible assumption))); done))))))); (all_goals (conv => whnf)))
      (all_goals (try dsimp only [Q.eta, Sn.eta, SlV.eta] at *)); (all_goals (first | exact Side.mk trivial | with_reducible exact Side.mk rfl | exact Side.mk (fun _ _ h => h) | exact Side.mk (Made.le (by assumption)) | refine Side.mk ?_ | refine Don.mk ?_ | skip))
      all_goals first | exact ⟨by omega, by omega⟩ | (exfalso; rw [hA] at hh; exact absurd hh (by decide)) | (exfalso; have h9 := of_decide_eq_true (by assumption : decide ((n : Int) > 64) = true); omega) | (exfalso; have h9 := (by assumption : ((n : Int) == 0) = true); simp at h9; omega) | skip
      clear hh h0 h1 h2 h3
      refine ⟨fun m s => ∃ (k : Nat) (i : Int) (b : Sn) (g6 g26 g27 g28 g29 g30 g31 g32 g33 g34 g35 g36 g37 g38 g39 g40 : AV) (w0 w1 w3 w5 w7 w8 w9 w10 w11 w12 w13 w14 w15 w16 w17 w18 w19 w20 w21 w22 w41 : Value), m = l.length - k ∧ k ≤ l.length ∧ i = (k : Int) ∧ okP b ∧ hulF s0 l = hulF b (l.drop k) ∧ s = ⟨[.v w0, .v w1, .p 0 0, .v w3, .p 1 0, .v w5, g6, .v w7, .v w8, .v w9, .v w10, .v w11, .v w12, .v w13, .v w14, .v w15, .v w16, .v w17, .v w18, .v w19, .v w20, .v w21, .v w22, .v (.slice (some a) n c), .v (.int .i64 n), .v (.int .i64 i), g26, g27, g28, g29, g30, g31, g32, g33, g34, g35, g36, g37, g38, g39, g40, .v w41], [([.int .i64 0, .int .i64 0, .int .i64 0, .int .i64 0], 27), ([.int .i64 b.lo.p, .int .i64 b.lo.q, .int .i64 b.hi.p, .int .i64 b.hi.q], 27)], E⟩, ⟨_, 0, _, s0, _, _, _, _, _, _, _, _, _, _, _, _, _, _, _, _, _, _, _, _, _, _, _, _, _, _, _, _, _, _, _, _, _, _, _, _, _, rfl, Nat.zero_le _, rfl, hok0, rfl, rfl⟩, ?_⟩
      rintro m s ⟨k, i, b, g6, g26, g27, g28, g29, g30, g31, g32, g33, g34, g35, g36, g37, g38, g39, g40, w0, w1, w3, w5, w7, w8, w9, w10, w11, w12, w13, w14, w15, w16, w17, w18, w19, w20, w21, w22, w41, rfl, hk, rfl, hb, hs, rfl⟩
      rcases hkl : l[k]? with _ | q
      · have hge := List.getElem?_eq_none_iff.1 hkl
        rw [List.drop_eq_nil_of_le hge, hulF] at hs
        (repeat' ((conv => whnf); (first | with_reducible apply And.intro | (with_reducible intro hh; first | (with_reducible have hx := NewRow.self hh; clear hx) | (with_reducible have hrow := Made.row hh; have hle := Made.le hh; have hmade := hh; clear hh) | (with_reducible have hrow := Fresh.rowS hh; have hle := Fresh.leS hh; have hfr := hh; clear hh) | (with_reducible have hx := Ext.self hh; clear hx) | (with_reducible have hx := SlV.self hh; clear hx) | (with_reducible have hx := Value.self hh; clear hx) | with_reducible cases hh | skip) | (with_reducible apply AllEq.mk; intro yy hq) | with_reducible apply trivial | with_reducible apply Exists.intro () | (with_reducible apply ex_side; (first | with_reducible assumption | with_reducible apply fracs1 | with_reducible apply fracs2 | with_reducible apply fracs3 | with_reducible apply spans1 | with_reducible apply spans2 | (with_reducible apply NewRow.keep; with_reducible assumption) | (with_reducible apply RowAt.keep; with_reducible assumption) | assumption | (focus ((repeat (first | with_reducible assumption | (with_reducible apply RowAt.le; rotate_left; with_reducible assumption) | (with_reducible apply RowB.le; rotate_left; with_reducible assumption))); done)))) | (with_reducible apply ex_side (a := (_, _)); (focus (with_reducible apply And.intro <;> (focus ((repeat (first | with_reducible assumption | (with_reducible apply RowAt.le; rotate_left; with_reducible assumption) | (with_reducible apply RowB.le; rotate_left; with_reducible assumption))); done))))))); (all_goals (conv => whnf)))
        (all_goals (try dsimp only [Q.eta, Sn.eta, SlV.eta] at *)); (all_goals (first | exact Side.mk trivial | with_reducible exact Side.mk rfl | exact Side.mk (fun _ _ h => h) | exact Side.mk (Made.le (by assumption)) | refine Side.mk ?_ | refine Don.mk ?_ | skip))
        all_goals try (exfalso; have := of_decide_eq_true (by assumption : decide ((k : Int) < (n : Int)) = true); omega)
        rw [hs]
        rfl
      · have hlt : k < l.length := (List.getElem?_eq_some_iff.1 hkl).1
        have hq := okS_p (allS_at hA hkl)
        rw [drop_at2 hkl, hulF] at hs
        obtain ⟨h0, h1, h2, h3⟩ := SpansAt.at hp0 (a := a) rfl hkl
        (repeat' ((conv => whnf); (first | with_reducible apply And.intro | (with_reducible intro hh; first | (with_reducible have hx := NewRow.self hh; clear hx) | (with_reducible have hrow := Made.row hh; have hle := Made.le hh; have hmade := hh; clear hh) | (with_reducible have hrow := Fresh.rowS hh; have hle := Fresh.leS hh; have hfr := hh; clear hh) | (with_reducible have hx := Ext.self hh; clear hx) | (with_reducible have hx := SlV.self hh; clear hx) | (with_reducible have hx := Value.self hh; clear hx) | with_reducible cases hh | skip) | (with_reducible apply AllEq.mk; intro yy hq) | with_reducible apply trivial | with_reducible apply Exists.intro () | (with_reducible apply ex_side; (first | with_reducible assumption | with_reducible apply fracs1 | with_reducible apply fracs2 | with_reducible apply fracs3 | with_reducible apply spans1 | with_reducible apply spans2 | (with_reducible apply NewRow.keep; with_reducible assumption) | (with_reducible apply RowAt.keep; with_reducible assumption) | assumption | (focus ((repeat (first | with_reducible assumption | (with_reducible apply RowAt.le; rotate_left; with_reducible assumption) | (with_reducible apply RowB.le; rotate_left; with_reducible assumption))); done)))) | (with_reducible apply ex_side (a := (_, _)); (focus (with_reducible apply And.intro <;> (focus ((repeat (first | with_reducible assumption | (with_reducible apply RowAt.le; rotate_left; with_reducible assumption) | (with_reducible apply RowB.le; rotate_left; with_reducible assumption))); done))))))); (all_goals (conv => whnf)))
        (all_goals (try dsimp only [Q.eta, Sn.eta, SlV.eta] at *)); (all_goals (first | exact Side.mk trivial | with_reducible exact Side.mk rfl | exact Side.mk (fun _ _ h => h) | exact Side.mk (Made.le (by assumption)) | refine Side.mk ?_ | refine Don.mk ?_ | skip))
        all_goals first | exact ⟨by omega, by omega⟩ | exact ⟨hb.1, hq.1⟩ | exact ⟨hb.2, hq.2⟩ | (exfalso; have := of_decide_eq_false (by assumption : decide ((k : Int) < (n : Int)) = false); omega) | skip
        all_goals refine ⟨_, ?_, k + 1, _, ⟨lesQ b.lo q.lo, greQ b.hi q.hi⟩, _, _, _, _, _, _, _, _, _, _, _, _, _, _, _, _, _, _, _, _, _, _, _, _, _, _, _, _, _, _, _, _, _, _, _, _, _, rfl, hlt, wrap_succ (n := n) (by omega) hmax, okP_hul hb hq, hs, rfl⟩
        all_goals omega
  · have hA' : allS l = false := by simpa using hA
    (repeat' ((conv => whnf); (first | with_reducible apply And.intro | (with_reducible intro hh; first | (with_reducible have hx := NewRow.self hh; clear hx) | (with_reducible have hrow := Made.row hh; have hle := Made.le hh; have hmade := hh; clear hh) | (with_reducible have hrow := Fresh.rowS hh; have hle := Fresh.leS hh; have hfr := hh; clear hh) | (with_reducible have hx := Ext.self hh; clear hx) | (with_reducible have hx := SlV.self hh; clear hx) | (with_reducible have hx := Value.self hh; clear hx) | with_reducible cases hh | skip) | (with_reducible apply AllEq.mk; intro yy hq) | with_reducible apply trivial | with_reducible apply Exists.intro () | (with_reducible apply ex_side; (first | with_reducible assumption | with_reducible apply fracs1 | with_reducible apply fracs2 | with_reducible apply fracs3 | with_reducible apply spans1 | with_reducible apply spans2 | (with_reducible apply NewRow.keep; with_reducible assumption) | (with_reducible apply RowAt.keep; with_reducible assumption) | assumption | (focus ((repeat (first | with_reducible assumption | (with_reducible apply RowAt.le; rotate_left; with_reducible assumption) | (with_reducible apply RowB.le; rotate_left; with_reducible assumption))); done)))) | (with_reducible apply ex_side (a := (_, _)); (focus (with_reducible apply And.intro <;> (focus ((repeat (first | with_reducible assumption | (with_reducible apply RowAt.le; rotate_left; with_reducible assumption) | (with_reducible apply RowB.le; rotate_left; with_reducible assumption))); done))))))); (all_goals (conv => whnf)))
    (all_goals (try dsimp only [Q.eta, Sn.eta, SlV.eta] at *)); (all_goals (first | exact Side.mk trivial | with_reducible exact Side.mk rfl | exact Side.mk (fun _ _ h => h) | exact Side.mk (Made.le (by assumption)) | refine Side.mk ?_ | refine Don.mk ?_ | skip))
    all_goals first | (rw [hulR_no hA']; rfl) | (exfalso; rw [hA'] at hh; exact absurd hh (by decide)) | (exfalso; have h9 := (by assumption : (!allS l) = false); rw [hA'] at h9; exact absurd h9 (by decide))

end Go.Proofs.YtadliapkjijahaaGreatDoor
