/- Contracts of both packages' functions on marks, worst errors and least counts, for all scales that lie in memory; conditions: the bounds that each names. -/
import Derived.Test.YtadliapkjijahaaGreatDoorAb
import Derived.Test.YtadliapkjijahaaGreatDoorC1
import Derived.Test.YtadliapkjijahaaGreatDoorC2
import Derived.Test.YtadliapkjijahaaGreatDoorC3
import Derived.Test.YtadliapkjijahaaGreatDoorC4
import Derived.Test.YtadliapkjijahaaGreatDoorC5
import Derived.Test.YtadliapkjijahaaGreatDoorCL
import Derived.Test.YtadliapkjijahaaGreatDoorC6
import Derived.Test.YtadliapkjijahaaGreatDoorC7
import Derived.Test.YtadliapkjijahaaGreatDoorC8
import Derived.Test.YtadliapkjijahaaGreatDoorC9
import Derived.Test.YtadliapkjijahaaGreatDoorCO
import Derived.Test.YtadliapkjijahaaGreatDoorC12
import Derived.Test.YtadliapkjijahaaGreatDoorC14
import Derived.Test.YtadliapkjijahaaGreatDoorC15
import Derived.Test.YtadliapkjijahaaGreatDoorProg
set_option linter.unusedVariables false
set_option linter.unusedSimpArgs false
namespace Go.Proofs.YtadliapkjijahaaGreatDoor
open Ab

theorem drop_at' {α : Type} {l : List α} {k : Nat} {x : α} (h : l[k]? = some x) : l.drop k = x :: l.drop (k + 1) := by
  obtain ⟨hl, he⟩ := List.getElem?_eq_some_iff.1 h
  rw [List.drop_eq_getElem_cons hl, he]
def AllRow' (s : SlV) (l : List Q) (E : Ext) : Prop := FracsAt s l E ∧ allOk l = true
abbrev Q1 : Q := ⟨0, 1⟩
/-- A mark that is asked for: its number, and its error. -/
def MarkIn (s : SlV) (u : Q) (x : Int) (l : List Q) (E : Ext) : Prop := FracsAt s l E ∧ okQ u = true ∧ ∃ (k : Nat) (e : Q), x = (k : Int) ∧ k ≤ 60 ∧ l[k]? = some e ∧ okQ e = true
theorem getD_at {l : List Q} {k : Nat} {e : Q} (h : l[k]? = some e) : l.getD k Q0 = e := by rw [List.getD_eq_getElem?_getD, h]; rfl
abbrev smkqSp : Sp := .hq sclL 49 I1 (fun s x (l : List Q) E => MarkIn s.errs s.unit x.1 l E) RQ (fun s x l => outO (markO s.unit x.1.toNat (l.getD x.1.toNat Q0)))
theorem smkq_ok : Sp.ok Tryz.prog 110 smkqSp := smarkq_ok
abbrev mkSp : Sp := .rf CI (fun x (l : List Q) E => MarkIn x.1.errs x.1.unit x.2.1 l E) (fun x l => (markT x.1.unit x.2.1.toNat (l.getD x.2.1.toNat Q0)).v)
set_option maxRecDepth 100000 in
theorem mk_ok : Sp.ok Tryz.prog 89 mkSp := by
  refine Sp.rf_ok (T := ⟨[(80, wholeSp), (53, tmulqSp), (50, taddqSp)], []⟩) follows eqok0 ⟨enters Tryz.func80 rfl rfl, num_ok, enters Tryz.func53 rfl rfl, tmulq_ok, enters Tryz.func50 rfl rfl, taddq_ok, trivial⟩ [(2, .take 0 (.take 1 (.take 2 (.take 4 (.take 5 (.take 7 (.take 8 (.take 9 (.take 10 (.take 11 (.alt 3 (.alt 6 (.alt 12 (.alt 13 (.done) (.last)) (.last)) (.last)) (.last))))))))))))] Tryz.func89 rfl (by kernel_rfl) _ _ _ fun x l E hp => ?_
  obtain ⟨⟨⟨a, b⟩, ⟨sa, n, c⟩⟩, kk, u⟩ := x
  obtain ⟨hp, hu, k, e, hk, hk60, hl, he⟩ := hp
  dsimp only at hk
  subst hk
  have hat := @FracsAt.at _ _ _ hp
  obtain ⟨hn, hmax, hnone, _⟩ := hp
  dsimp only at hn hmax hnone hat hu
  have hlt : k < l.length := (List.getElem?_eq_some_iff.1 hl).1
  have hg : l.getD k Q0 = e := getD_at hl
  cases sa with
  | none => rw [hnone rfl] at hl; cases hl
  | some ad =>
    obtain ⟨h0, h1⟩ := hat rfl hl
    (repeat' ((conv => whnf); (first | with_reducible apply And.intro | (with_reducible intro hh; first | (with_reducible have hx := NewRow.self hh; clear hx) | (with_reducible have hrow := Made.row hh; have hle := Made.le hh; have hmade := hh; clear hh) | (with_reducible have hrow := Fresh.rowS hh; have hle := Fresh.leS hh; have hfr := hh; clear hh) | (with_reducible have hx := Ext.self hh; clear hx) | (with_reducible have hx := SlV.self hh; clear hx) | (with_reducible have hx := Value.self hh; clear hx) | with_reducible cases hh | skip) | (with_reducible apply AllEq.mk; intro yy hq) | with_reducible apply trivial | with_reducible apply Exists.intro () | (with_reducible apply ex_side; (first | with_reducible assumption | with_reducible apply fracs1 | with_reducible apply fracs2 | with_reducible apply fracs3 | with_reducible apply spans1 | with_reducible apply spans2 | (with_reducible apply NewRow.keep; with_reducible assumption) | (with_reducible apply RowAt.keep; with_reducible assumption) | assumption | (focus ((repeat (first | with_reducible assumption | (with_reducible apply RowAt.le; rotate_left; with_reducible assumption) | (with_reducible apply RowB.le; rotate_left; with_reducible assumption))); done)))) | (with_reducible apply ex_side (a := (_, _)); (focus (with_reducible apply And.intro <;> (focus ((repeat (first | with_reducible assumption | (with_reducible apply RowAt.le; rotate_left; with_reducible assumption) | (with_reducible apply RowB.le; rotate_left; with_reducible assumption))); done))))))); (all_goals (conv => whnf)))
    (all_goals (try dsimp only [Q.eta, Sn.eta, SlV.eta] at *)); (all_goals (first | exact Side.mk trivial | with_reducible exact Side.mk rfl | exact Side.mk (fun _ _ h => h) | exact Side.mk (Made.le (by assumption)) | refine Side.mk ?_ | refine Don.mk ?_ | skip))
    all_goals subst_vars
    all_goals first | exact ⟨by omega, by omega⟩ | exact ⟨okQ_idx hk60, hu⟩ | exact ⟨tolO_mul _ _, he⟩ | rfl
abbrev mkqSp : Sp := .rq CI (fun x (l : List Q) E => MarkIn x.1.errs x.1.unit x.2.1 l E) Q.v (fun x l => markT x.1.unit x.2.1.toNat (l.getD x.2.1.toNat Q0))
theorem mkq_ok : Sp.ok Tryz.prog 89 mkqSp := Sp.rq_ok mk_ok
theorem markIn_of {s : SlV} {u : Q} {l : List Q} {E : Ext} {k : Int} (hp : FracsAt s l E) (hC : okC u l = true) (h0 : 0 ≤ k) (h1 : k < l.length) : MarkIn s u k l E ∧ ∃ m, markO u k.toNat (l.getD k.toNat Q0) = some m ∧ okQ m = true := by
  obtain ⟨hu, _, _, h60, hall, hm⟩ := okC_iff hC
  have hk : l[k.toNat]? = some (l[k.toNat]'(by omega)) := List.getElem?_eq_getElem (by omega)
  generalize l[k.toNat]'(by omega) = e at hk
  refine ⟨⟨hp, hu, k.toNat, e, by omega, by omega, hk, allOk_iff.1 hall _ _ hk⟩, ?_⟩
  rw [getD_at hk]
  exact hm _ _ hk
def markR (u : Q) (l : List Q) (k : Int) : Q × Int := grd Q0 (okC u l) 1 (grd Q0 (withinB k 0 (l.length - 1)) 2 (outO (markO u k.toNat (l.getD k.toNat Q0))))
abbrev markASp : Sp := .rf CI (fun x (l : List Q) E => FracsAt x.1.errs l E) (fun x l => RQ (markR x.1.unit l x.2.1))
set_option maxRecDepth 100000 in
theorem markA_ok : Sp.ok Tryz.prog 39 markASp := by
  refine Sp.rf_ok (T := ⟨[(72, scaleOkVSp), (88, withinSp), (89, mkqSp)], []⟩) follows eqok0 ⟨enters Tryz.func72 rfl rfl, scaleV_ok, enters Tryz.func88 rfl rfl, within_ok, enters Tryz.func89 rfl rfl, mkq_ok, trivial⟩ [] Tryz.func39 rfl (by kernel_rfl) _ _ _ fun x l E hp => ?_
  obtain ⟨⟨⟨a, b⟩, ⟨sa, n, c⟩⟩, k, u⟩ := x
  dsimp only at hp
  have hn := hp.1
  dsimp only at hn
  by_cases hC : okC ⟨a, b⟩ l = true
  · have h60 := okC_iff hC
    have hw : IntKind.i64.wrap ((n : Int) - 1) = (l.length : Int) - 1 := by rw [wrap_in (by omega) (by omega), hn]
    by_cases hk : withinB k 0 (l.length - 1) = true
    · have hk' := within_iff.1 hk
      obtain ⟨hM, m, hm, _⟩ := markIn_of (k := k) hp hC (by omega) (by omega)
      (repeat' ((conv => whnf); (first | with_reducible apply And.intro | (with_reducible intro hh; first | (with_reducible have hx := NewRow.self hh; clear hx) | (with_reducible have hrow := Made.row hh; have hle := Made.le hh; have hmade := hh; clear hh) | (with_reducible have hrow := Fresh.rowS hh; have hle := Fresh.leS hh; have hfr := hh; clear hh) | (with_reducible have hx := Ext.self hh; clear hx) | (with_reducible have hx := SlV.self hh; clear hx) | (with_reducible have hx := Value.self hh; clear hx) | with_reducible cases hh | skip) | (with_reducible apply AllEq.mk; intro yy hq) | with_reducible apply trivial | with_reducible apply Exists.intro () | (with_reducible apply ex_side; (first | with_reducible assumption | with_reducible apply fracs1 | with_reducible apply fracs2 | with_reducible apply fracs3 | with_reducible apply spans1 | with_reducible apply spans2 | (with_reducible apply NewRow.keep; with_reducible assumption) | (with_reducible apply RowAt.keep; with_reducible assumption) | assumption | (focus ((repeat (first | with_reducible assumption | (with_reducible apply RowAt.le; rotate_left; with_reducible assumption) | (with_reducible apply RowB.le; rotate_left; with_reducible assumption))); done)))) | (with_reducible apply ex_side (a := (_, _)); (focus (with_reducible apply And.intro <;> (focus ((repeat (first | with_reducible assumption | (with_reducible apply RowAt.le; rotate_left; with_reducible assumption) | (with_reducible apply RowB.le; rotate_left; with_reducible assumption))); done))))))); (all_goals (conv => whnf)))
      (all_goals (try dsimp only [Q.eta, Sn.eta, SlV.eta] at *)); (all_goals (first | exact Side.mk trivial | with_reducible exact Side.mk rfl | exact Side.mk (fun _ _ h => h) | exact Side.mk (Made.le (by assumption)) | refine Side.mk ?_ | refine Don.mk ?_ | skip))
      all_goals try simp only [hw] at *
      all_goals try (exfalso; simp_all; done)
      all_goals subst_vars
      rw [markR, grd_yes hC, grd_yes hk, hm, markT_some hm]
      rfl
    · (repeat' ((conv => whnf); (first | with_reducible apply And.intro | (with_reducible intro hh; first | (with_reducible have hx := NewRow.self hh; clear hx) | (with_reducible have hrow := Made.row hh; have hle := Made.le hh; have hmade := hh; clear hh) | (with_reducible have hrow := Fresh.rowS hh; have hle := Fresh.leS hh; have hfr := hh; clear hh) | (with_reducible have hx := Ext.self hh; clear hx) | (with_reducible have hx := SlV.self hh; clear hx) | (with_reducible have hx := Value.self hh; clear hx) | with_reducible cases hh | skip) | (with_reducible apply AllEq.mk; intro yy hq) | with_reducible apply trivial | with_reducible apply Exists.intro () | (with_reducible apply ex_side; (first | with_reducible assumption | with_reducible apply fracs1 | with_reducible apply fracs2 | with_reducible apply fracs3 | with_reducible apply spans1 | with_reducible apply spans2 | (with_reducible apply NewRow.keep; with_reducible assumption) | (with_reducible apply RowAt.keep; with_reducible assumption) | assumption | (focus ((repeat (first | with_reducible assumption | (with_reducible apply RowAt.le; rotate_left; with_reducible assumption) | (with_reducible apply RowB.le; rotate_left; with_reducible assumption))); done)))) | (with_reducible apply ex_side (a := (_, _)); (focus (with_reducible apply And.intro <;> (focus ((repeat (first | with_reducible assumption | (with_reducible apply RowAt.le; rotate_left; with_reducible assumption) | (with_reducible apply RowB.le; rotate_left; with_reducible assumption))); done))))))); (all_goals (conv => whnf)))
      (all_goals (try dsimp only [Q.eta, Sn.eta, SlV.eta] at *)); (all_goals (first | exact Side.mk trivial | with_reducible exact Side.mk rfl | exact Side.mk (fun _ _ h => h) | exact Side.mk (Made.le (by assumption)) | refine Side.mk ?_ | refine Don.mk ?_ | skip))
      all_goals try simp only [hw] at *
      all_goals first | (exfalso; exact hk (not_f (by assumption))) | (exfalso; rw [hC] at hh; cases hh; done) | skip
      rw [markR, grd_yes hC, grd_no (by simpa using hk)]
      rfl
  · (repeat' ((conv => whnf); (first | with_reducible apply And.intro | (with_reducible intro hh; first | (with_reducible have hx := NewRow.self hh; clear hx) | (with_reducible have hrow := Made.row hh; have hle := Made.le hh; have hmade := hh; clear hh) | (with_reducible have hrow := Fresh.rowS hh; have hle := Fresh.leS hh; have hfr := hh; clear hh) | (with_reducible have hx := Ext.self hh; clear hx) | (with_reducible have hx := SlV.self hh; clear hx) | (with_reducible have hx := Value.self hh; clear hx) | with_reducible cases hh | skip) | (with_reducible apply AllEq.mk; intro yy hq) | with_reducible apply trivial | with_reducible apply Exists.intro () | (with_reducible apply ex_side; (first | with_reducible assumption | with_reducible apply fracs1 | with_reducible apply fracs2 | with_reducible apply fracs3 | with_reducible apply spans1 | with_reducible apply spans2 | (with_reducible apply NewRow.keep; with_reducible assumption) | (with_reducible apply RowAt.keep; with_reducible assumption) | assumption | (focus ((repeat (first | with_reducible assumption | (with_reducible apply RowAt.le; rotate_left; with_reducible assumption) | (with_reducible apply RowB.le; rotate_left; with_reducible assumption))); done)))) | (with_reducible apply ex_side (a := (_, _)); (focus (with_reducible apply And.intro <;> (focus ((repeat (first | with_reducible assumption | (with_reducible apply RowAt.le; rotate_left; with_reducible assumption) | (with_reducible apply RowB.le; rotate_left; with_reducible assumption))); done))))))); (all_goals (conv => whnf)))
    (all_goals (try dsimp only [Q.eta, Sn.eta, SlV.eta] at *)); (all_goals (first | exact Side.mk trivial | with_reducible exact Side.mk rfl | exact Side.mk (fun _ _ h => h) | exact Side.mk (Made.le (by assumption)) | refine Side.mk ?_ | refine Don.mk ?_ | skip))
    all_goals first | (exfalso; exact hC (not_f (by assumption))) | (rw [markR, grd_no (by simpa using hC)]; rfl)
/-! the worst error -/
def worQ : Q → List Q → Q
  | a, [] => a
  | a, e :: r => worQ (greQ a (sizQ e)) r
theorem worQ_ok : ∀ {l : List Q} {a : Q}, allOk l = true → okQ a = true → okQ (worQ a l) = true
  | [], _, _, h => h
  | e :: r, a, hl, h => by
    have h1 : okQ e = true ∧ allOk r = true := by simpa [allOk] using hl
    exact worQ_ok (l := r) h1.2 (greQ_ok h (okQ_size h1.1))

abbrev worSp : Sp := .rf C1A (fun x (l : List Q) E => AllRow' x.1.errs l E) (fun _ l => (worQ Q1 l).v)

set_option maxRecDepth 100000 in
theorem wor_ok : Sp.ok Tryz.prog 81 worSp := by
  refine Sp.rf_ok (T := ⟨[(115, zeroSp), (79, sizSp), (56, greSp)], []⟩) follows eqok0 ⟨enters Tryz.func115 rfl rfl, zero_ok, enters Tryz.func79 rfl rfl, siz_ok, enters Tryz.func56 rfl rfl, gre_ok, trivial⟩ [(5, .take 1 (.alt 0 (.alt 2 (.alt 3 (.alt 4 (.done) (.last)) (.last)) (.last)) (.alt 2 (.alt 0 (.alt 3 (.alt 4 (.done) (.last)) (.last)) (.last)) (.last))))] Tryz.func81 rfl (by kernel_rfl) _ _ _ fun x l E hp => ?_
  obtain ⟨⟨⟨a, b⟩, ⟨sa, n, c⟩⟩, u⟩ := x
  obtain ⟨hp, hall⟩ := hp
  have hat := @FracsAt.at _ _ _ hp
  obtain ⟨hn, hmax, hnone, _⟩ := hp
  dsimp only at hn hmax hnone hat
  (repeat' ((conv => whnf); (first | with_reducible apply And.intro | (with_reducible intro hh; first | (with_reducible have hx := NewRow.self hh; clear hx) | (with_reducible have hrow := Made.row hh; have hle := Made.le hh; have hmade := hh; clear hh) | (with_reducible have hrow := Fresh.rowS hh; have hle := Fresh.leS hh; have hfr := hh; clear hh) | (with_reducible have hx := Ext.self hh; clear hx) | (with_reducible have hx := SlV.self hh; clear hx) | (with_reducible have hx := Value.self hh; clear hx) | with_reducible cases hh | skip) | (with_reducible apply AllEq.mk; intro yy hq) | with_reducible apply trivial | with_reducible apply Exists.intro () | (with_reducible apply ex_side; (first | with_reducible assumption | with_reducible apply fracs1 | with_reducible apply fracs2 | with_reducible apply fracs3 | with_reducible apply spans1 | with_reducible apply spans2 | (with_reducible apply NewRow.keep; with_reducible assumption) | (with_reducible apply RowAt.keep; with_reducible assumption) | assumption | (focus ((repeat (first | with_reducible assumption | (with_reducible apply RowAt.le; rotate_left; with_reducible assumption) | (with_reducible apply RowB.le; rotate_left; with_reducible assumption))); done)))) | (with_reducible apply ex_side (a := (_, _)); (focus (with_reducible apply And.intro <;> (focus ((repeat (first | with_reducible assumption | (with_reducible apply RowAt.le; rotate_left; with_reducible assumption) | (with_reducible apply RowB.le; rotate_left; with_reducible assumption))); done))))))); (all_goals (conv => whnf)))
  (all_goals (try dsimp only [Q.eta, Sn.eta, SlV.eta] at *)); (all_goals (first | exact Side.mk trivial | with_reducible exact Side.mk rfl | exact Side.mk (fun _ _ h => h) | exact Side.mk (Made.le (by assumption)) | refine Side.mk ?_ | refine Don.mk ?_ | skip))
  refine ⟨fun m s => ∃ (k : Nat) (w : Q) (g5 g11 g12 g13 g14 g15 g16 g17 g18 : AV) (w0 w4 w6 w19 : Value), m = l.length - k ∧ k ≤ l.length ∧ okQ w = true ∧ worQ Q1 l = worQ w (l.drop k) ∧ s = ⟨[.v w0, .p 0 0, .p 1 0, .p 2 0, .v w4, g5, .v w6, .p 0 2, .v (.slice sa n c), .v (.int .i64 n), .v (.int .i64 k), g11, g12, g13, g14, g15, g16, g17, g18, .v w19], [([.int .i64 a, .int .i64 b, .slice sa n c], 49), ([.int .i64 0, .int .i64 0], 25), ([.int .i64 w.p, .int .i64 w.q], 25)], E⟩, ⟨_, 0, Q1, _, _, _, _, _, _, _, _, _, _, _, _, _, rfl, Nat.zero_le _, by decide, rfl, rfl⟩, ?_⟩
  rintro m s ⟨k, w, g5, g11, g12, g13, g14, g15, g16, g17, g18, w0, w4, w6, w19, rfl, hk, hw, hs, rfl⟩
  rcases hkl : l[k]? with _ | e
  · have hge := List.getElem?_eq_none_iff.1 hkl
    rw [List.drop_eq_nil_of_le hge, worQ] at hs
    (repeat' ((conv => whnf); (first | with_reducible apply And.intro | (with_reducible intro hh; first | (with_reducible have hx := NewRow.self hh; clear hx) | (with_reducible have hrow := Made.row hh; have hle := Made.le hh; have hmade := hh; clear hh) | (with_reducible have hrow := Fresh.rowS hh; have hle := Fresh.leS hh; have hfr := hh; clear hh) | (with_reducible have hx := Ext.self hh; clear hx) | (with_reducible have hx := SlV.self hh; clear hx) | (with_reducible have hx := Value.self hh; clear hx) | with_reducible cases hh | skip) | (with_reducible apply AllEq.mk; intro yy hq) | with_reducible apply trivial | with_reducible apply Exists.intro () | (with_reducible apply ex_side; (first | with_reducible assumption | with_reducible apply fracs1 | with_reducible apply fracs2 | with_reducible apply fracs3 | with_reducible apply spans1 | with_reducible apply spans2 | (with_reducible apply NewRow.keep; with_reducible assumption) | (with_reducible apply RowAt.keep; with_reducible assumption) | assumption | (focus ((repeat (first | with_reducible assumption | (with_reducible apply RowAt.le; rotate_left; with_reducible assumption) | (with_reducible apply RowB.le; rotate_left; with_reducible assumption))); done)))) | (with_reducible apply ex_side (a := (_, _)); (focus (with_reducible apply And.intro <;> (focus ((repeat (first | with_reducible assumption | (with_reducible apply RowAt.le; rotate_left; with_reducible assumption) | (with_reducible apply RowB.le; rotate_left; with_reducible assumption))); done))))))); (all_goals (conv => whnf)))
    (all_goals (try dsimp only [Q.eta, Sn.eta, SlV.eta] at *)); (all_goals (first | exact Side.mk trivial | with_reducible exact Side.mk rfl | exact Side.mk (fun _ _ h => h) | exact Side.mk (Made.le (by assumption)) | refine Side.mk ?_ | refine Don.mk ?_ | skip))
    all_goals try (exfalso; have := of_decide_eq_true (by assumption : decide ((k : Int) < (n : Int)) = true); omega)
    rw [hs]
    rfl
  · have hlt : k < l.length := (List.getElem?_eq_some_iff.1 hkl).1
    rw [drop_at' hkl, worQ] at hs
    have he := allOk_iff.1 hall k e hkl
    cases sa with
    | none => rw [hnone rfl] at hkl; cases hkl
    | some ad =>
      obtain ⟨h0, h1⟩ := hat rfl hkl
      (repeat' ((conv => whnf); (first | with_reducible apply And.intro | (with_reducible intro hh; first | (with_reducible have hx := NewRow.self hh; clear hx) | (with_reducible have hrow := Made.row hh; have hle := Made.le hh; have hmade := hh; clear hh) | (with_reducible have hrow := Fresh.rowS hh; have hle := Fresh.leS hh; have hfr := hh; clear hh) | (with_reducible have hx := Ext.self hh; clear hx) | (with_reducible have hx := SlV.self hh; clear hx) | (with_reducible have hx := Value.self hh; clear hx) | with_reducible cases hh | skip) | (with_reducible apply AllEq.mk; intro yy hq) | with_reducible apply trivial | with_reducible apply Exists.intro () | (with_reducible apply ex_side; (first | with_reducible assumption | with_reducible apply fracs1 | with_reducible apply fracs2 | with_reducible apply fracs3 | with_reducible apply spans1 | with_reducible apply spans2 | (with_reducible apply NewRow.keep; with_reducible assumption) | (with_reducible apply RowAt.keep; with_reducible assumption) | assumption | (focus ((repeat (first | with_reducible assumption | (with_reducible apply RowAt.le; rotate_left; with_reducible assumption) | (with_reducible apply RowB.le; rotate_left; with_reducible assumption))); done)))) | (with_reducible apply ex_side (a := (_, _)); (focus (with_reducible apply And.intro <;> (focus ((repeat (first | with_reducible assumption | (with_reducible apply RowAt.le; rotate_left; with_reducible assumption) | (with_reducible apply RowB.le; rotate_left; with_reducible assumption))); done))))))); (all_goals (conv => whnf)))
      (all_goals (try dsimp only [Q.eta, Sn.eta, SlV.eta] at *)); (all_goals (first | exact Side.mk trivial | with_reducible exact Side.mk rfl | exact Side.mk (fun _ _ h => h) | exact Side.mk (Made.le (by assumption)) | refine Side.mk ?_ | refine Don.mk ?_ | skip))
      all_goals first | exact ⟨by omega, by omega⟩ | exact he | exact ⟨hw, okQ_size he⟩ | (exfalso; have := of_decide_eq_false (by assumption : decide ((k : Int) < (n : Int)) = false); omega) | skip
      all_goals (refine ⟨_, ?_, k + 1, greQ w (sizQ e), _, _, _, _, _, _, _, _, _, _, _, _, _, rfl, hlt, greQ_ok hw (okQ_size he), hs, by first | (rw [wrap_succ (n := n) (by omega) hmax]; done) | (rw [wrap_succ (n := n) (by omega) hmax]; rfl)⟩; omega)

end Go.Proofs.YtadliapkjijahaaGreatDoor
