/- The span that is drawn, spans compared for equality, and the contracts of spans in words that tell the answers ahead; no condition. -/
import Derived.Test.YtadliapkjijahaaGreatDoorAb
import Derived.Test.YtadliapkjijahaaGreatDoorC1
import Derived.Test.YtadliapkjijahaaGreatDoorC2
import Derived.Test.YtadliapkjijahaaGreatDoorC3
import Derived.Test.YtadliapkjijahaaGreatDoorC4
import Derived.Test.YtadliapkjijahaaGreatDoorC5
import Derived.Test.YtadliapkjijahaaGreatDoorCL
import Derived.Test.YtadliapkjijahaaGreatDoorC6
import Derived.Test.YtadliapkjijahaaGreatDoorC7
import Derived.Test.YtadliapkjijahaaGreatDoorC8
import Derived.Test.YtadliapkjijahaaGreatDoorC9
import Derived.Test.YtadliapkjijahaaGreatDoorCO
import Derived.Test.YtadliapkjijahaaGreatDoorC10
import Derived.Test.YtadliapkjijahaaGreatDoorC12
import Derived.Test.YtadliapkjijahaaGreatDoorC14
import Derived.Test.YtadliapkjijahaaGreatDoorC24
import Derived.Test.YtadliapkjijahaaGreatDoorC25
import Derived.Test.YtadliapkjijahaaGreatDoorC27
import Derived.Test.YtadliapkjijahaaGreatDoorC28
import Derived.Test.YtadliapkjijahaaGreatDoorC30
import Derived.Test.YtadliapkjijahaaGreatDoorCN
import Derived.Test.YtadliapkjijahaaGreatDoorCS
import Derived.Test.YtadliapkjijahaaGreatDoorCD
import Derived.Test.YtadliapkjijahaaGreatDoorC39
import Derived.Test.YtadliapkjijahaaGreatDoorC40
import Derived.Test.YtadliapkjijahaaGreatDoorC41
import Derived.Test.YtadliapkjijahaaGreatDoorCG
import Derived.Test.YtadliapkjijahaaGreatDoorC42
import Derived.Test.YtadliapkjijahaaGreatDoorC43
import Derived.Test.YtadliapkjijahaaGreatDoorC44
import Derived.Test.YtadliapkjijahaaGreatDoorCK
import Derived.Test.YtadliapkjijahaaGreatDoorCF
import Derived.Test.YtadliapkjijahaaGreatDoorCP
import Derived.Test.YtadliapkjijahaaGreatDoorC50
import Derived.Test.YtadliapkjijahaaGreatDoorC51
import Derived.Test.YtadliapkjijahaaGreatDoorC53
import Derived.Test.YtadliapkjijahaaGreatDoorC54
import Derived.Test.YtadliapkjijahaaGreatDoorC55
import Derived.Test.YtadliapkjijahaaGreatDoorC56
import Derived.Test.YtadliapkjijahaaGreatDoorC57
import Derived.Test.YtadliapkjijahaaGreatDoorC58
import Derived.Test.YtadliapkjijahaaGreatDoorC70
import Derived.Test.YtadliapkjijahaaGreatDoorC72
import Derived.Test.YtadliapkjijahaaGreatDoorC76
import Derived.Test.YtadliapkjijahaaGreatDoorProg
import Derived.Laws.StructEq
set_option linter.unusedVariables false
set_option linter.unusedSimpArgs false
namespace Go.Proofs.YtadliapkjijahaaGreatDoor
open Ab

/-! fractions and spans with small parts -/
structure SmallF (a : Q) : Prop where
  ok : okQ a = true
  p : a.p.natAbs ≤ 60
  q : a.q ≤ 12
structure SmallS (s : Sn) : Prop where
  lo : SmallF s.lo
  hi : SmallF s.hi
  le : vq s.lo ≤ vq s.hi
theorem frac_small {v w : Int} (v0 : 0 ≤ v) (v1 : v < 121) (w0 : 0 ≤ w) (w1 : w < 12) : SmallF (redQ (v - 60) (1 + w)) := by
  obtain ⟨o1, e1, b1, c1, _⟩ := red_small' (p := v - 60) (q := 1 + w) (by omega) (by omega) (by omega)
  have h1 := okQ_pos o1
  exact ⟨o1, by omega, by omega⟩
theorem span_small {a b : Q} (ha : SmallF a) (hb : SmallF b) : SmallS ⟨lesQ a b, greQ a b⟩ := by
  have c1 := cmp_le (okQ_pos ha.ok) (okQ_pos hb.ok)
  have c2 := cmp_ge (okQ_pos ha.ok) (okQ_pos hb.ok)
  unfold lesQ greQ
  by_cases h1 : cmpQ a b ≤ 0 <;> by_cases h2 : 0 ≤ cmpQ a b
  · rw [if_pos h1, if_pos h2]
    exact ⟨ha, ha, by grind⟩
  · rw [if_pos h1, if_neg h2]
    exact ⟨ha, hb, by dsimp only; grind⟩
  · rw [if_neg h1, if_pos h2]
    exact ⟨hb, ha, by dsimp only; grind⟩
  · omega
theorem SmallS.okS {s : Sn} (h : SmallS s) : okS s = true := by
  have c1 := (cmp_le (okQ_pos h.lo.ok) (okQ_pos h.hi.ok)).2 h.le
  unfold Go.Proofs.YtadliapkjijahaaGreatDoor.okS
  rw [h.lo.ok, h.hi.ok]
  simp [c1]
abbrev p6spanSp : Sp := .nf FS (fun x (bs : List Int) E => Bytes8 x.1 bs E) (fun _ _ (y : Sn) => y.v) (fun x _ y E E' => Side (Keeps E E' ∧ SmallS y))
theorem SrcOn.trans {b : Nat} {bs : List Int} {s : Src} {n n' k : Nat} {d : Int} {E E1 E2 : Ext} (h : SrcOn b bs s n E E1) (hk : k ≤ s.at_ + n) (h2 : SrcOn b bs ⟨s.sl, k, d⟩ n' E1 E2) : SrcOn b bs s (n + n') E E2 := by
  obtain ⟨k2, d2, e2, h3⟩ := h2.src
  exact ⟨⟨k2, d2, by dsimp only at e2; omega, h3⟩, h2.own.trans h.own, fun a ha => (h2.rest a ha).trans (h.rest a ha)⟩
set_option maxHeartbeats 4000000 in
set_option maxRecDepth 100000 in
theorem p6span_ok : Sp.ok Tryz.prog 7 p6spanSp := by
  refine Sp.nf_ok (T := ⟨[(40, fromSp), (42, pickSp), (41, reducedSp), (43, lesSp), (44, greSp)], []⟩) follows eqok0 ⟨enters Tryz.func40 rfl rfl, from_ok, enters Tryz.func42 rfl rfl, pick_ok, enters Tryz.func41 rfl rfl, reduced_ok, enters Tryz.func43 rfl rfl, sles_ok, enters Tryz.func44 rfl rfl, sgre_ok, trivial⟩ [(4, .take 0 (.take 1 (.take 3 (.take 4 (.alt 2 (.alt 5 (.take 6 (.alt 7 (.done) (.last))) (.last)) (.last))))))] Tryz.func7 rfl (by kernel_rfl) _ _ _ _ fun x bs E hp => ?_
  obtain ⟨⟨sa, n, c⟩, u⟩ := x
  (repeat' ((conv => whnf); (first | with_reducible apply And.intro | (with_reducible intro hh; first | (with_reducible have hx := NewRow.self hh; clear hx) | (with_reducible have hrow := Made.row hh; have hle := Made.le hh; have hmade := hh; clear hh) | (with_reducible have hrow := Fresh.rowS hh; have hle := Fresh.leS hh; have hfr := hh; clear hh) | (with_reducible have hx := Ext.self hh; clear hx) | (with_reducible have hx := SlV.self hh; clear hx) | (with_reducible have hx := Value.self hh; clear hx) | with_reducible cases hh | skip) | (with_reducible apply AllEq.mk; intro yy hq) | with_reducible apply trivial | with_reducible apply Exists.intro () | (with_reducible apply ex_side; (first | with_reducible assumption | with_reducible apply fracs1 | with_reducible apply fracs2 | with_reducible apply fracs3 | with_reducible apply spans1 | with_reducible apply spans2 | (with_reducible apply NewRow.keep; with_reducible assumption) | (with_reducible apply RowAt.keep; with_reducible assumption) | assumption | (focus ((repeat (first | with_reducible assumption | (with_reducible apply RowAt.le; rotate_left; with_reducible assumption) | (with_reducible apply RowB.le; rotate_left; with_reducible assumption))); done)))) | (with_reducible apply ex_side (a := (_, _)); (focus (with_reducible apply And.intro <;> (focus ((repeat (first | with_reducible assumption | (with_reducible apply RowAt.le; rotate_left; with_reducible assumption) | (with_reducible apply RowB.le; rotate_left; with_reducible assumption))); done))))))); (all_goals (conv => whnf)))
  (all_goals (try dsimp only [Q.eta, Sn.eta, SlV.eta] at *)); (all_goals (first | exact Side.mk trivial | with_reducible exact Side.mk rfl | exact Side.mk (fun _ _ h => h) | exact Side.mk (Made.le (by assumption)) | refine Side.mk ?_ | refine Don.mk ?_ | skip))
  rename_i y E1
  obtain ⟨s1, k1, o1, f1⟩ := hh.out
  clear hh
  refine ⟨(y, bs, _), Side.mk ⟨rfl, s1, by dsimp only; omega, by decide⟩, fun a E2 h2 => ?_⟩
  obtain ⟨s2, a0, a1, _⟩ := h2.out
  have a1 : a < 121 := a1 (by show (1 : Int) ≤ 121; omega)
  obtain ⟨k2, d2, b2, s2c⟩ := s2.src
  have b2 : k2 ≤ 2 := by simpa using b2
  (repeat' ((conv => whnf); (first | with_reducible apply And.intro | (with_reducible intro hh; first | (with_reducible have hx := NewRow.self hh; clear hx) | (with_reducible have hrow := Made.row hh; have hle := Made.le hh; have hmade := hh; clear hh) | (with_reducible have hrow := Fresh.rowS hh; have hle := Fresh.leS hh; have hfr := hh; clear hh) | (with_reducible have hx := Ext.self hh; clear hx) | (with_reducible have hx := SlV.self hh; clear hx) | (with_reducible have hx := Value.self hh; clear hx) | with_reducible cases hh | skip) | (with_reducible apply AllEq.mk; intro yy hq) | with_reducible apply trivial | with_reducible apply Exists.intro () | (with_reducible apply ex_side; (first | with_reducible assumption | with_reducible apply fracs1 | with_reducible apply fracs2 | with_reducible apply fracs3 | with_reducible apply spans1 | with_reducible apply spans2 | (with_reducible apply NewRow.keep; with_reducible assumption) | (with_reducible apply RowAt.keep; with_reducible assumption) | assumption | (focus ((repeat (first | with_reducible assumption | (with_reducible apply RowAt.le; rotate_left; with_reducible assumption) | (with_reducible apply RowB.le; rotate_left; with_reducible assumption))); done)))) | (with_reducible apply ex_side (a := (_, _)); (focus (with_reducible apply And.intro <;> (focus ((repeat (first | with_reducible assumption | (with_reducible apply RowAt.le; rotate_left; with_reducible assumption) | (with_reducible apply RowB.le; rotate_left; with_reducible assumption))); done))))))); (all_goals (conv => whnf)))
  (all_goals (try dsimp only [Q.eta, Sn.eta, SlV.eta] at *)); (all_goals (first | exact Side.mk trivial | with_reducible exact Side.mk rfl | exact Side.mk (fun _ _ h => h) | exact Side.mk (Made.le (by assumption)) | refine Side.mk ?_ | refine Don.mk ?_ | skip))
  refine ⟨(y, bs, ⟨_, k2, d2⟩), Side.mk ⟨rfl, s2c, by dsimp only; omega, by decide⟩, fun b E3 h3 => ?_⟩
  obtain ⟨s3, b0, b1, _⟩ := h3.out
  have b1 : b < 12 := b1 (by show (1 : Int) ≤ 12; omega)
  obtain ⟨k3, d3, b3, s3c⟩ := s3.src
  have b3 : k3 ≤ k2 + 2 := b3
  have w1 : IntKind.i64.wrap (a - 60) = a - 60 := wrap_in (by omega) (by omega)
  have w2 : IntKind.i64.wrap (1 + b) = 1 + b := wrap_in (by omega) (by omega)
  have t3 := s2.trans (by simpa using b2) s3
  clear h2 h3
  have f3 := frac_small a0 a1 b0 b1
  (repeat' ((conv => whnf); (first | with_reducible apply And.intro | (with_reducible intro hh; first | (with_reducible have hx := NewRow.self hh; clear hx) | (with_reducible have hrow := Made.row hh; have hle := Made.le hh; have hmade := hh; clear hh) | (with_reducible have hrow := Fresh.rowS hh; have hle := Fresh.leS hh; have hfr := hh; clear hh) | (with_reducible have hx := Ext.self hh; clear hx) | (with_reducible have hx := SlV.self hh; clear hx) | (with_reducible have hx := Value.self hh; clear hx) | with_reducible cases hh | skip) | (with_reducible apply AllEq.mk; intro yy hq) | with_reducible apply trivial | with_reducible apply Exists.intro () | (with_reducible apply ex_side; (first | with_reducible assumption | with_reducible apply fracs1 | with_reducible apply fracs2 | with_reducible apply fracs3 | with_reducible apply spans1 | with_reducible apply spans2 | (with_reducible apply NewRow.keep; with_reducible assumption) | (with_reducible apply RowAt.keep; with_reducible assumption) | assumption | (focus ((repeat (first | with_reducible assumption | (with_reducible apply RowAt.le; rotate_left; with_reducible assumption) | (with_reducible apply RowB.le; rotate_left; with_reducible assumption))); done)))) | (with_reducible apply ex_side (a := (_, _)); (focus (with_reducible apply And.intro <;> (focus ((repeat (first | with_reducible assumption | (with_reducible apply RowAt.le; rotate_left; with_reducible assumption) | (with_reducible apply RowB.le; rotate_left; with_reducible assumption))); done))))))); (all_goals (conv => whnf)))
  (all_goals (try dsimp only [Q.eta, Sn.eta, SlV.eta] at *)); (all_goals (first | exact Side.mk trivial | with_reducible exact Side.mk rfl | exact Side.mk (fun _ _ h => h) | exact Side.mk (Made.le (by assumption)) | refine Side.mk ?_ | refine Don.mk ?_ | skip))
  all_goals rw [w1, w2]
  · refine ⟨?_, ?_, ?_⟩ <;> (try unfold B4) <;> omega
  generalize redQ (a - 60) (1 + b) = qa at f3 ⊢
  generalize redC (a - 60) (1 + b) = qac
  obtain ⟨qa1, qa2⟩ := qa
  dsimp only
  refine ⟨(y, bs, ⟨_, k3, d3⟩), Side.mk ⟨rfl, s3c, by dsimp only; omega, by decide⟩, fun e E4 h4 => ?_⟩
  obtain ⟨s4, e0, e1, _⟩ := h4.out
  have e1 : e < 121 := e1 (by show (1 : Int) ≤ 121; omega)
  obtain ⟨k4, d4, b4, s4c⟩ := s4.src
  have b4 : k4 ≤ k3 + 2 := b4
  have t4 := t3.trans (by show k3 ≤ 0 + (2 + 2); omega) s4
  clear h4
  (repeat' ((conv => whnf); (first | with_reducible apply And.intro | (with_reducible intro hh; first | (with_reducible have hx := NewRow.self hh; clear hx) | (with_reducible have hrow := Made.row hh; have hle := Made.le hh; have hmade := hh; clear hh) | (with_reducible have hrow := Fresh.rowS hh; have hle := Fresh.leS hh; have hfr := hh; clear hh) | (with_reducible have hx := Ext.self hh; clear hx) | (with_reducible have hx := SlV.self hh; clear hx) | (with_reducible have hx := Value.self hh; clear hx) | with_reducible cases hh | skip) | (with_reducible apply AllEq.mk; intro yy hq) | with_reducible apply trivial | with_reducible apply Exists.intro () | (with_reducible apply ex_side; (first | with_reducible assumption | with_reducible apply fracs1 | with_reducible apply fracs2 | with_reducible apply fracs3 | with_reducible apply spans1 | with_reducible apply spans2 | (with_reducible apply NewRow.keep; with_reducible assumption) | (with_reducible apply RowAt.keep; with_reducible assumption) | assumption | (focus ((repeat (first | with_reducible assumption | (with_reducible apply RowAt.le; rotate_left; with_reducible assumption) | (with_reducible apply RowB.le; rotate_left; with_reducible assumption))); done)))) | (with_reducible apply ex_side (a := (_, _)); (focus (with_reducible apply And.intro <;> (focus ((repeat (first | with_reducible assumption | (with_reducible apply RowAt.le; rotate_left; with_reducible assumption) | (with_reducible apply RowB.le; rotate_left; with_reducible assumption))); done))))))); (all_goals (conv => whnf)))
  (all_goals (try dsimp only [Q.eta, Sn.eta, SlV.eta] at *)); (all_goals (first | exact Side.mk trivial | with_reducible exact Side.mk rfl | exact Side.mk (fun _ _ h => h) | exact Side.mk (Made.le (by assumption)) | refine Side.mk ?_ | refine Don.mk ?_ | skip))
  refine ⟨(y, bs, ⟨_, k4, d4⟩), Side.mk ⟨rfl, s4c, by dsimp only; omega, by decide⟩, fun g E5 h5 => ?_⟩
  obtain ⟨s5, g0, g1, _⟩ := h5.out
  have g1 : g < 12 := g1 (by show (1 : Int) ≤ 12; omega)
  have t5 := t4.trans (by show k4 ≤ 0 + (2 + 2 + 2); omega) s5
  have w3 : IntKind.i64.wrap (e - 60) = e - 60 := wrap_in (by omega) (by omega)
  have w4 : IntKind.i64.wrap (1 + g) = 1 + g := wrap_in (by omega) (by omega)
  clear h5
  have f5 := frac_small e0 e1 g0 g1
  (repeat' ((conv => whnf); (first | with_reducible apply And.intro | (with_reducible intro hh; first | (with_reducible have hx := NewRow.self hh; clear hx) | (with_reducible have hrow := Made.row hh; have hle := Made.le hh; have hmade := hh; clear hh) | (with_reducible have hrow := Fresh.rowS hh; have hle := Fresh.leS hh; have hfr := hh; clear hh) | (with_reducible have hx := Ext.self hh; clear hx) | (with_reducible have hx := SlV.self hh; clear hx) | (with_reducible have hx := Value.self hh; clear hx) | with_reducible cases hh | skip) | (with_reducible apply AllEq.mk; intro yy hq) | with_reducible apply trivial | with_reducible apply Exists.intro () | (with_reducible apply ex_side; (first | with_reducible assumption | with_reducible apply fracs1 | with_reducible apply fracs2 | with_reducible apply fracs3 | with_reducible apply spans1 | with_reducible apply spans2 | (with_reducible apply NewRow.keep; with_reducible assumption) | (with_reducible apply RowAt.keep; with_reducible assumption) | assumption | (focus ((repeat (first | with_reducible assumption | (with_reducible apply RowAt.le; rotate_left; with_reducible assumption) | (with_reducible apply RowB.le; rotate_left; with_reducible assumption))); done)))) | (with_reducible apply ex_side (a := (_, _)); (focus (with_reducible apply And.intro <;> (focus ((repeat (first | with_reducible assumption | (with_reducible apply RowAt.le; rotate_left; with_reducible assumption) | (with_reducible apply RowB.le; rotate_left; with_reducible assumption))); done))))))); (all_goals (conv => whnf)))
  (all_goals (try dsimp only [Q.eta, Sn.eta, SlV.eta] at *)); (all_goals (first | exact Side.mk trivial | with_reducible exact Side.mk rfl | exact Side.mk (fun _ _ h => h) | exact Side.mk (Made.le (by assumption)) | refine Side.mk ?_ | refine Don.mk ?_ | skip))
  all_goals rw [w3, w4]
  all_goals first
    | (refine ⟨?_, ?_, ?_⟩ <;> (try unfold B4) <;> omega)
    | exact ⟨f3.ok, f5.ok⟩
    | exact ⟨⟨lesQ ⟨qa1, qa2⟩ (redQ (e - 60) (1 + g)), greQ ⟨qa1, qa2⟩ (redQ (e - 60) (1 + g))⟩, rfl, Side.mk ⟨on_keeps k1 o1 f1 t5, span_small f3 f5⟩⟩
/-! spans compared -/
theorem eqCells4 {m n : List Value} {r : Bool} (hl : m.length = 4) (h : eqCells m n = some r) : ∃ j1 j2 j3 j4 a1 a2 a3 a4 b1 b2 b3 b4, m = [.int j1 a1, .int j2 a2, .int j3 a3, .int j4 a4] ∧ n = [.int j1 b1, .int j2 b2, .int j3 b3, .int j4 b4] ∧ r = ((a1 == b1) && ((a2 == b2) && ((a3 == b3) && (a4 == b4)))) := by
  match m, hl with
  | [u, v, w, x], _ =>
    obtain ⟨j, a, c, n', r', rfl, rfl, h1, rfl⟩ := eqCells1 h
    obtain ⟨j', b, d, n2, r2, rfl, rfl, h2, rfl⟩ := eqCells1 h1
    obtain ⟨j2, x, y, n3, r3, rfl, rfl, h3, rfl⟩ := eqCells1 h2
    obtain ⟨j3, x3, y3, n4, r4, rfl, rfl, h4, rfl⟩ := eqCells1 h3
    obtain ⟨rfl, rfl⟩ := eqCells0 h4
    exact ⟨j, j', j2, j3, a, b, x, x3, c, d, y, y3, rfl, rfl, by simp⟩
theorem run_part2 {xs : Array Value} {t : TypeId} {o z : Nat} (w : World) (ht : ∀ w, (isAgg t).run Tryz.prog w = .ok true w) (hz : ∀ w, (sizeOf t).run Tryz.prog w = .ok z w) : (part t xs o).run Tryz.prog w = .ok (.agg (xs.extract o (o + z))) w := by
  unfold part
  rw [Sem.run_bind, ht]
  simp only [Result.andThen_ok, if_true]
  rw [Sem.run_bind, hz]
  simp only [Result.andThen_ok, Sem.run_pure]
theorem eq_span (d : Nat) (w : World) (j1 j2 j3 j4 : IntKind) (a1 a2 a3 a4 b1 b2 b3 b4 : Int) : (Op.equalIn (d + 4) 27 (.agg #[.int j1 a1, .int j2 a2, .int j3 a3, .int j4 a4]) (.agg #[.int j1 b1, .int j2 b2, .int j3 b3, .int j4 b4])).run Tryz.prog w = .ok ((a1 == b1) && ((a2 == b2) && ((a3 == b3) && (a4 == b4)))) w := by
  have hg : ∀ w, (isAgg 25).run Tryz.prog w = .ok true w := fun w => prun_none (by kernel_rfl) w
  have hz : ∀ w, (sizeOf 25).run Tryz.prog w = .ok 2 w := fun w => prun_none (by kernel_rfl) w
  rw [run_equalIn_agg w (d + 3) 27 _ _ (by kernel_rfl) (by kernel_rfl)]
  have hf : (Program.fieldsOf Tryz.prog 27).toList = (match Tryz.prog.underlying 27 with | some (.struct fs) => fs.toList | _ => []) := by kernel_rfl
  rw [hf]
  rw [Tryz.underlying27]
  have h1 : (#[.int j1 a1, .int j2 a2, .int j3 a3, .int j4 a4] : Array Value).extract 0 (0 + 2) = #[.int j1 a1, .int j2 a2] := by simp
  have h2 : (#[.int j1 b1, .int j2 b2, .int j3 b3, .int j4 b4] : Array Value).extract 0 (0 + 2) = #[.int j1 b1, .int j2 b2] := by simp
  have h3 : (#[.int j1 a1, .int j2 a2, .int j3 a3, .int j4 a4] : Array Value).extract 2 (2 + 2) = #[.int j3 a3, .int j4 a4] := by simp
  have h4 : (#[.int j1 b1, .int j2 b2, .int j3 b3, .int j4 b4] : Array Value).extract 2 (2 + 2) = #[.int j3 b3, .int j4 b4] := by simp
  simp [Op.eqFields, run_part2 _ hg hz, eq_frac (d + 1), Result.andThen]
  by_cases h1 : a1 = b1 <;> by_cases h2 : a2 = b2 <;> by_cases h3 : a3 = b3 <;> by_cases h4 : a4 = b4 <;> simp [h1, h2, h3, h4]
abbrev eqN : List (TypeId × Nat) := [(25, 2), (27, 4)]
theorem eqokN : EqOk Tryz.prog eqN := by
  intro t m n r h x y w
  unfold eqN eqOf at h
  split at h
  · rename_i hb
    rw [Bool.and_eq_true] at hb
    obtain ⟨j, j', a, b, c, d, rfl, rfl, rfl⟩ := eqCells2 (Nat.eq_of_beq_eq_true hb.2) h
    obtain rfl := Nat.eq_of_beq_eq_true hb.1
    have hg : Program.eqGuardType Tryz.prog (Program.depth Tryz.prog) 25 = false := by kernel_rfl
    refine ⟨?_, ?_⟩
    · rw [Sem.run_bind, run_eqGuard_agg w .eql _ x y _ _ hg]
      simp only [Result.andThen_ok, run_eql_struct, eq_frac 9998]
    · rw [Sem.run_bind, run_eqGuard_agg w .neq _ x y _ _ hg]
      simp only [Result.andThen_ok, run_neq_struct, eq_frac 9998]
  · unfold eqOf at h
    split at h
    · rename_i hb
      rw [Bool.and_eq_true] at hb
      obtain ⟨j1, j2, j3, j4, a1, a2, a3, a4, b1, b2, b3, b4, rfl, rfl, rfl⟩ := eqCells4 (Nat.eq_of_beq_eq_true hb.2) h
      obtain rfl := Nat.eq_of_beq_eq_true hb.1
      have hg : Program.eqGuardType Tryz.prog (Program.depth Tryz.prog) 27 = false := by kernel_rfl
      refine ⟨?_, ?_⟩
      · rw [Sem.run_bind, run_eqGuard_agg w .eql _ x y _ _ hg]
        simp only [Result.andThen_ok, run_eql_struct, eq_span 9996]
      · rw [Sem.run_bind, run_eqGuard_agg w .neq _ x y _ _ hg]
        simp only [Result.andThen_ok, run_neq_struct, eq_span 9996]
    · simp [eqOf] at h
/-! answers told ahead -/
def addSR (s t : Sn) : Sn × Int := resS (okS s && okS t) (sumS s t)
def subSR (s t : Sn) : Sn × Int := resS (okS s && okS t) (difS s t)
abbrev addSTSp : Sp := .rf S2 (fun x (l : Sn × Int) _ => l = addSR x.1 x.2.1) (fun _ l => RS l)
abbrev subSTSp : Sp := .rf S2 (fun x (l : Sn × Int) _ => l = subSR x.1 x.2.1) (fun _ l => RS l)
abbrev mulSTSp : Sp := .rf S2 (fun x (l : Sn × Int) _ => l = mulR x.1 x.2.1) (fun _ l => RS l)
abbrev widTSp : Sp := .rf S1 (fun x (l : Q × Int) _ => l = widR x.1) (fun _ l => RQ l)
abbrev inTSp : Sp := .rf SA (fun x (l : Bool × Int) _ => l = inR x.1 x.2.1) (fun _ l => RB l)
abbrev meetTSp : Sp := .rf S2 (fun x (l : Sn × Int) _ => l = meeR x.1 x.2.1) (fun _ l => RS l)
abbrev aroTSp : Sp := .rf F2 (fun x (l : Sn × Int) _ => l = aroR x.1 x.2.1) (fun _ l => RS l)
abbrev spanTSp : Sp := .rf S1 (fun x (l : Bool) _ => l = okS x.1) (fun _ l => BV l)
abbrev stTSp : Sp := .rf S1 (fun x (l : List UInt8) _ => l = stxt x.1) (fun _ l => .string (strB l))
abbrev rdTSp : Sp := .rf T1 (fun x (l : Sn × Int) _ => x.1.size ≤ 1048576 ∧ l = implRS (bl x.1)) (fun _ l => RS l)
abbrev hulTSp : Sp := .rf FS (fun x (l : List Sn × (Sn × Int)) E => SpansAt x.1 l.1 E ∧ l.2 = hulR l.1) (fun _ l => RS l.2)
theorem addST_ok : Sp.ok Tryz.prog 10 addSTSp := Sp.told (en := RS) addS_ok
theorem subST_ok : Sp.ok Tryz.prog 11 subSTSp := Sp.told (en := RS) subS_ok
theorem mulST_ok : Sp.ok Tryz.prog 12 mulSTSp := Sp.told (en := RS) (Sp.pf_of_nf (δ := Unit) mulSnK_ok)
theorem widT_ok : Sp.ok Tryz.prog 13 widTSp := Sp.told (en := RQ) wid_ok
theorem inT_ok : Sp.ok Tryz.prog 19 inTSp := Sp.told (en := RB) inF_ok
theorem meetT_ok : Sp.ok Tryz.prog 20 meetTSp := Sp.told (en := RS) meetF_ok
theorem smeetT_ok : Sp.ok Tryz.prog 21 meetTSp := Sp.told (en := RS) smeetF_ok
theorem aroT_ok : Sp.ok Tryz.prog 24 aroTSp := Sp.told (en := RS) aroF_ok
theorem spanT_ok : Sp.ok Tryz.prog 15 spanTSp := Sp.told (en := BV) spanV_ok
theorem stT_ok : Sp.ok Tryz.prog 9 stTSp := Sp.told (en := fun l => .string (strB l)) istxt_ok
theorem rdT_ok : Sp.ok Tryz.prog 8 rdTSp := by
  intro bs m E K hk
  refine irdS_ok bs m E K ?_
  simp only [Sp.rf] at hk
  simp only [Sp.pf]
  split at hk
  · split at hk
    · obtain ⟨l, hl, hk⟩ := hk
      obtain ⟨h1, rfl⟩ := hl.out
      exact ⟨Side.mk h1, hk⟩
    · cases hk
  · cases hk
theorem hulT_ok : Sp.ok Tryz.prog 14 hulTSp := by
  intro bs m E K hk
  refine hul_ok bs m E K ?_
  simp only [Sp.rf] at hk ⊢
  split at hk
  · split at hk
    · obtain ⟨⟨l, r⟩, hl, hk⟩ := hk
      obtain ⟨h1, h2⟩ := hl.out
      dsimp only at h1 h2
      subst h2
      exact ⟨l, Side.mk h1, hk⟩
    · cases hk
  · cases hk

end Go.Proofs.YtadliapkjijahaaGreatDoor
