/- Contracts of both packages' functions on scales, their marks and their errors, and of the laws' own on scales, for all arguments that lie in memory; conditions: the bounds that each names. -/
import Derived.Test.YtadliapkjijahaaGreatDoorAb
import Derived.Test.YtadliapkjijahaaGreatDoorC1
import Derived.Test.YtadliapkjijahaaGreatDoorC2
import Derived.Test.YtadliapkjijahaaGreatDoorC3
import Derived.Test.YtadliapkjijahaaGreatDoorC4
import Derived.Test.YtadliapkjijahaaGreatDoorC5
import Derived.Test.YtadliapkjijahaaGreatDoorCL
import Derived.Test.YtadliapkjijahaaGreatDoorC6
import Derived.Test.YtadliapkjijahaaGreatDoorC7
import Derived.Test.YtadliapkjijahaaGreatDoorC8
import Derived.Test.YtadliapkjijahaaGreatDoorC9
import Derived.Test.YtadliapkjijahaaGreatDoorCO
import Derived.Test.YtadliapkjijahaaGreatDoorC12
import Derived.Test.YtadliapkjijahaaGreatDoorProg
set_option linter.unusedVariables false
set_option linter.unusedSimpArgs false
namespace Go.Proofs.YtadliapkjijahaaGreatDoor
open Ab

abbrev C1A : ArgL (Scl × Unit) := .cons sclA .nil
abbrev CI : ArgL (Scl × Int × Unit) := .cons sclA (.cons .int .nil)
abbrev CC : ArgL (Scl × Scl × Unit) := .cons sclA (.cons sclA .nil)
/-! the laws' own -/
abbrev eqScaleSp : Sp := .rf CC (fun x (l : List Q × List Q) E => FracsAt x.1.errs l.1 E ∧ FracsAt x.2.1.errs l.2 E) (fun x l => .bool (decide (x.1.unit = x.2.1.unit ∧ l.1 = l.2)))
set_option maxRecDepth 100000 in
theorem eqScale_ok : Sp.ok Tryz.prog 27 eqScaleSp := by
  refine Sp.rf_ok (T := ⟨[(73, eqFracSp), (74, eqFracSSp)], []⟩) follows eqok0 ⟨enters Tryz.func73 rfl rfl, eqFrac_ok, enters Tryz.func74 rfl rfl, eqFracS_ok, trivial⟩ [] Tryz.func27 rfl (by kernel_rfl) _ _ _ fun x l E hp => ?_
  obtain ⟨⟨⟨a, b⟩, ⟨sa, n, c⟩⟩, ⟨⟨a', b'⟩, ⟨sa', n', c'⟩⟩, u⟩ := x
  obtain ⟨l, l'⟩ := l
  obtain ⟨hp, hp'⟩ := hp
  dsimp only at hp hp'
  (repeat' ((conv => whnf); (first | with_reducible apply And.intro | (with_reducible intro hh; first | (with_reducible have hx := NewRow.self hh; clear hx) | (with_reducible have hrow := Made.row hh; have hle := Made.le hh; have hmade := hh; clear hh) | (with_reducible have hrow := Fresh.rowS hh; have hle := Fresh.leS hh; have hfr := hh; clear hh) | (with_reducible have hx := Ext.self hh; clear hx) | (with_reducible have hx := SlV.self hh; clear hx) | (with_reducible have hx := Value.self hh; clear hx) | with_reducible cases hh | skip) | (with_reducible apply AllEq.mk; intro yy hq) | with_reducible apply trivial | with_reducible apply Exists.intro () | (with_reducible apply ex_side; (first | with_reducible assumption | with_reducible apply fracs1 | with_reducible apply fracs2 | with_reducible apply fracs3 | with_reducible apply spans1 | with_reducible apply spans2 | (with_reducible apply NewRow.keep; with_reducible assumption) | (with_reducible apply RowAt.keep; with_reducible assumption) | assumption | (focus ((repeat (first | with_reducible assumption | (with_reducible apply RowAt.le; rotate_left; with_reducible assumption) | (with_reducible apply RowB.le; rotate_left; with_reducible assumption))); done)))) | (with_reducible apply ex_side (a := (_, _)); (focus (with_reducible apply And.intro <;> (focus ((repeat (first | with_reducible assumption | (with_reducible apply RowAt.le; rotate_left; with_reducible assumption) | (with_reducible apply RowB.le; rotate_left; with_reducible assumption))); done))))))); (all_goals (conv => whnf)))
  (all_goals (try dsimp only [Q.eta, Sn.eta, SlV.eta] at *)); (all_goals (first | exact Side.mk trivial | with_reducible exact Side.mk rfl | exact Side.mk (fun _ _ h => h) | exact Side.mk (Made.le (by assumption)) | refine Side.mk ?_ | refine Don.mk ?_ | skip))
  all_goals first | (simp_all; done) | (simp_all; grind)
/-! valid scales -/
def sizQ (a : Q) : Q := ⟨a.p.natAbs, a.q⟩
theorem okQ_size {a : Q} (h : okQ a = true) : okQ (sizQ a) = true := by
  rw [okQ_iff] at *
  obtain ⟨h1, h2, h3, h4, h5⟩ := h
  refine ⟨h1, h2, ?_, ?_, ?_⟩
  · show -1000000000 ≤ (a.p.natAbs : Int); omega
  · show (a.p.natAbs : Int) ≤ 1000000000; omega
  · show Int.gcd (a.p.natAbs : Int) a.q = 1; rw [gcd_absl]; exact h5
def smE (u e : Q) : Bool := !decide (4 * (e.p.natAbs : Int) * u.q > u.p * e.q)
def markO (u : Q) (k : Nat) (e : Q) : Option Q := (mulO ⟨k, 1⟩ u).bind fun a => addO a e
def okE (u : Q) (k : Nat) (e : Q) : Bool := okQ e && (smE u e && (markO u k e).isSome)
def okEs (u : Q) : Nat → List Q → Bool
  | _, [] => true
  | k, e :: r => okE u k e && okEs u (k + 1) r
abbrev Q0 : Q := ⟨0, 0⟩
def okC (u : Q) (l : List Q) : Bool := witQ u 1000 && (withinB l.length 2 60 && okEs u 0 l)
theorem witQ_ok {u : Q} {m : Int} (h : witQ u m = true) : okQ u = true ∧ 0 < u.p := by
  simp only [witQ, Bool.and_eq_true, decide_eq_true_eq] at h
  exact ⟨h.1, h.2.1⟩
theorem okEs_at {u : Q} : ∀ {l : List Q} {k i : Nat} {e : Q}, okEs u k l = true → l[i]? = some e → okE u (k + i) e = true
  | [], _, _, _, _, h => by simp at h
  | a :: r, k, 0, e, h, hi => by
    simp only [okEs, Bool.and_eq_true] at h
    cases hi
    exact h.1
  | a :: r, k, i + 1, e, h, hi => by
    simp only [okEs, Bool.and_eq_true] at h
    have := okEs_at h.2 (i := i) (by simpa using hi)
    rwa [show k + (i + 1) = k + 1 + i by omega]
theorem okC_iff {u : Q} {l : List Q} (h : okC u l = true) : okQ u = true ∧ 0 < u.p ∧ 2 ≤ l.length ∧ l.length ≤ 60 ∧ allOk l = true ∧ ∀ i e, l[i]? = some e → ∃ m, markO u i e = some m ∧ okQ m = true := by
  simp only [okC, Bool.and_eq_true] at h
  obtain ⟨h1, h2, h3⟩ := h
  have h2 := within_iff.1 h2
  refine ⟨(witQ_ok h1).1, (witQ_ok h1).2, by omega, by omega, allOk_iff.2 fun i q hi => ?_, fun i e hi => ?_⟩
  · have := okEs_at h3 hi
    simp only [okE, Bool.and_eq_true] at this
    exact this.1
  · have := okEs_at h3 hi
    rw [Nat.zero_add] at this
    simp only [okE, Bool.and_eq_true] at this
    obtain ⟨m, hm⟩ := Option.isSome_iff_exists.1 this.2.2
    refine ⟨m, hm, ?_⟩
    unfold markO at hm
    cases h : mulO ⟨i, 1⟩ u with
    | none => rw [h] at hm; cases hm
    | some a => rw [h] at hm; exact addO_ok hm
/-- What the calculator makes of a mark. -/
def markT (u : Q) (k : Nat) (e : Q) : Q := tolO (addO (tolO (mulO ⟨k, 1⟩ u)) e)
theorem markT_none (u : Q) (k : Nat) (e : Q) : (markO u k e).isNone = ((mulO ⟨k, 1⟩ u).isNone || (addO (tolO (mulO ⟨k, 1⟩ u)) e).isNone) := by
  unfold markO
  cases h : mulO ⟨k, 1⟩ u with
  | none => rfl
  | some a => simp [tolO_some]
theorem markT_some {u : Q} {k : Nat} {e m : Q} (h : markO u k e = some m) : markT u k e = m := by
  unfold markO at h
  unfold markT
  cases h1 : mulO ⟨k, 1⟩ u with
  | none => rw [h1] at h; cases h
  | some a =>
    rw [h1] at h
    simp only [Option.bind_some] at h
    rw [tolO_some, h, tolO_some]
theorem sm_wrap {u e : Q} (hu : okQ u = true) (he : okQ e = true) : IntKind.i64.wrap (4 * (e.p.natAbs : Int)) = 4 * (e.p.natAbs : Int) ∧ IntKind.i64.wrap (4 * (e.p.natAbs : Int) * u.q) = 4 * (e.p.natAbs : Int) * u.q ∧ IntKind.i64.wrap (u.p * e.q) = u.p * e.q := by
  obtain ⟨u1, u2, u3, u4, _⟩ := okQ_iff.1 hu
  obtain ⟨e1, e2, e3, e4, _⟩ := okQ_iff.1 he
  have h1 := mul_b (a := (e.p.natAbs : Int)) (b := u.q) (by omega) (by omega)
  have h2 := mul_b (a := u.p) (b := e.q) (by omega) (by omega)
  refine ⟨wrap_in (by omega) (by omega), wrap_in ?_ ?_, wrap18 h2⟩
  · rw [Int.mul_assoc]; omega
  · rw [Int.mul_assoc]; omega
theorem okQ_idx {k : Nat} (h : k ≤ 60) : okQ ⟨k, 1⟩ = true := okQ_whole (within_iff.2 ⟨by omega, by omega⟩)
abbrev sizSp : Sp := .pf F1 (fun x => okQ x.1 = true) (fun x => (sizQ x.1).v)
set_option maxRecDepth 100000 in
theorem siz_ok : Sp.ok Tryz.prog 79 sizSp := by
  refine Sp.pf_ok (T := ⟨[], []⟩) follows eqok0 trivial [] Tryz.func79 rfl (by kernel_rfl) _ _ _ fun x E hp => ?_
  obtain ⟨⟨a, c⟩, u⟩ := x
  have h := (okQ_iff.1 hp).2.2
  have hw : IntKind.i64.wrap (0 - a) = -a := wrap_neg (by have := h; dsimp only at this ⊢; unfold B4; omega)
  (repeat' ((conv => whnf); (first | with_reducible apply And.intro | (with_reducible intro hh; first | (with_reducible have hx := NewRow.self hh; clear hx) | (with_reducible have hrow := Made.row hh; have hle := Made.le hh; have hmade := hh; clear hh) | (with_reducible have hrow := Fresh.rowS hh; have hle := Fresh.leS hh; have hfr := hh; clear hh) | (with_reducible have hx := Ext.self hh; clear hx) | (with_reducible have hx := SlV.self hh; clear hx) | (with_reducible have hx := Value.self hh; clear hx) | with_reducible cases hh | skip) | (with_reducible apply AllEq.mk; intro yy hq) | with_reducible apply trivial | with_reducible apply Exists.intro () | (with_reducible apply ex_side; (first | with_reducible assumption | with_reducible apply fracs1 | with_reducible apply fracs2 | with_reducible apply fracs3 | with_reducible apply spans1 | with_reducible apply spans2 | (with_reducible apply NewRow.keep; with_reducible assumption) | (with_reducible apply RowAt.keep; with_reducible assumption) | assumption | (focus ((repeat (first | with_reducible assumption | (with_reducible apply RowAt.le; rotate_left; with_reducible assumption) | (with_reducible apply RowB.le; rotate_left; with_reducible assumption))); done)))) | (with_reducible apply ex_side (a := (_, _)); (focus (with_reducible apply And.intro <;> (focus ((repeat (first | with_reducible assumption | (with_reducible apply RowAt.le; rotate_left; with_reducible assumption) | (with_reducible apply RowB.le; rotate_left; with_reducible assumption))); done))))))); (all_goals (conv => whnf)))
  (all_goals (try dsimp only [Q.eta, Sn.eta, SlV.eta] at *)); (all_goals (first | exact Side.mk trivial | with_reducible exact Side.mk rfl | exact Side.mk (fun _ _ h => h) | exact Side.mk (Made.le (by assumption)) | refine Side.mk ?_ | refine Don.mk ?_ | skip))
  rw [hw]
  have h2 : (if -a > a then -a else a) = (a.natAbs : Int) := by split <;> omega
  exact congrArg (fun z => AV.v (Value.agg #[.int .i64 z, .int .i64 c])) h2
abbrev unitSp : Sp := .pf F1 (fun x => okQ x.1 = true) (fun x => .bool (decide (x.1.p > 0) && decide (cmpQ x.1 ⟨1000, 1⟩ ≤ 0)))
set_option maxRecDepth 100000 in
theorem unit_ok : Sp.ok Tryz.prog 112 unitSp := by
  refine Sp.pf_ok (T := ⟨[(80, wholeSp), (58, cmpSp)], []⟩) follows eqok0 ⟨enters Tryz.func80 rfl rfl, num_ok, enters Tryz.func58 rfl rfl, cmp_ok, trivial⟩ [(1, .take 0 (.take 1 (.take 2 (.take 3 (.take 4 (.alt 5 (.alt 6 (.take 7 (.take 8 (.take 9 (.done)))) (.last)) (.last)))))))] Tryz.func112 rfl (by kernel_rfl) _ _ _ fun x E hp => ?_
  obtain ⟨⟨a, c⟩, u⟩ := x
  (repeat' ((conv => whnf); (first | with_reducible apply And.intro | (with_reducible intro hh; first | (with_reducible have hx := NewRow.self hh; clear hx) | (with_reducible have hrow := Made.row hh; have hle := Made.le hh; have hmade := hh; clear hh) | (with_reducible have hrow := Fresh.rowS hh; have hle := Fresh.leS hh; have hfr := hh; clear hh) | (with_reducible have hx := Ext.self hh; clear hx) | (with_reducible have hx := SlV.self hh; clear hx) | (with_reducible have hx := Value.self hh; clear hx) | with_reducible cases hh | skip) | (with_reducible apply AllEq.mk; intro yy hq) | with_reducible apply trivial | with_reducible apply Exists.intro () | (with_reducible apply ex_side; (first | with_reducible assumption | with_reducible apply fracs1 | with_reducible apply fracs2 | with_reducible apply fracs3 | with_reducible apply spans1 | with_reducible apply spans2 | (with_reducible apply NewRow.keep; with_reducible assumption) | (with_reducible apply RowAt.keep; with_reducible assumption) | assumption | (focus ((repeat (first | with_reducible assumption | (with_reducible apply RowAt.le; rotate_left; with_reducible assumption) | (with_reducible apply RowB.le; rotate_left; with_reducible assumption))); done)))) | (with_reducible apply ex_side (a := (_, _)); (focus (with_reducible apply And.intro <;> (focus ((repeat (first | with_reducible assumption | (with_reducible apply RowAt.le; rotate_left; with_reducible assumption) | (with_reducible apply RowB.le; rotate_left; with_reducible assumption))); done))))))); (all_goals (conv => whnf)))
  (all_goals (try dsimp only [Q.eta, Sn.eta, SlV.eta] at *)); (all_goals (first | exact Side.mk trivial | with_reducible exact Side.mk rfl | exact Side.mk (fun _ _ h => h) | exact Side.mk (Made.le (by assumption)) | refine Side.mk ?_ | refine Don.mk ?_ | skip))
  all_goals first | exact ⟨hp, okQ_whole (n := 1000) (by decide)⟩ | (simp_all; done) | (simp_all; omega)
abbrev smarkSp : Sp := .hf sclL 49 I1 (fun s x (l : List Q) E => FracsAt s.errs l E ∧ okQ s.unit = true ∧ ∃ (k : Nat) (e : Q), x.1 = (k : Int) ∧ k ≤ 60 ∧ l[k]? = some e ∧ okQ e = true) (fun s x l => RQ (outO (markO s.unit x.1.toNat (l.getD x.1.toNat Q0))))
set_option maxRecDepth 100000 in
theorem smark_ok : Sp.ok Tryz.prog 110 smarkSp := by
  refine Sp.hf_ok (T := ⟨[(85, wholeSp), (62, omulqSp), (60, oaddqSp)], []⟩) follows eqok0 ⟨enters Tryz.func85 rfl rfl, whole_ok, enters Tryz.func62 rfl rfl, omulq_ok, enters Tryz.func60 rfl rfl, oaddq_ok, trivial⟩ [(1, .take 0 (.take 2 (.take 3 (.take 4 (.take 5 (.alt 1 (.alt 6 (.take 7 (.take 8 (.take 9 (.alt 10 (.alt 11 (.take 12 (.done)) (.last)) (.last))))) (.alt 10 (.alt 6 (.take 7 (.take 8 (.take 9 (.alt 11 (.take 12 (.done)) (.last))))) (.last)) (.last))) (.alt 10 (.alt 1 (.alt 6 (.take 7 (.take 8 (.take 9 (.alt 11 (.take 12 (.done)) (.last))))) (.last)) (.last)) (.last)))))))), (4, .take 0 (.take 1 (.take 2 (.take 3 (.take 4 (.take 5 (.take 6 (.take 7 (.alt 8 (.take 9 (.take 10 (.alt 11 (.take 12 (.done)) (.last)))) (.last))))))))))] Tryz.func110 rfl (by kernel_rfl) _ _ _ _ _ fun s x l E hp => ?_
  obtain ⟨⟨a, b⟩, ⟨sa, n, c⟩⟩ := s
  obtain ⟨kk, u⟩ := x
  obtain ⟨hp, hu, k, e, hk, hk60, hl, he⟩ := hp
  dsimp only at hk
  subst hk
  have hat := @FracsAt.at _ _ _ hp
  obtain ⟨hn, hmax, hnone, _⟩ := hp
  dsimp only at hn hmax hnone hat hu
  have hlt : k < l.length := (List.getElem?_eq_some_iff.1 hl).1
  have hg : l.getD k Q0 = e := by rw [List.getD_eq_getElem?_getD, hl]; rfl
  have hm : markO ⟨a, b⟩ k e = (mulO ⟨k, 1⟩ ⟨a, b⟩).bind fun a => addO a e := rfl
  cases sa with
  | none => rw [hnone rfl] at hl; cases hl
  | some ad =>
    obtain ⟨h0, h1⟩ := hat rfl hl
    (repeat' ((conv => whnf); (first | with_reducible apply And.intro | (with_reducible intro hh; first | (with_reducible have hx := NewRow.self hh; clear hx) | (with_reducible have hrow := Made.row hh; have hle := Made.le hh; have hmade := hh; clear hh) | (with_reducible have hrow := Fresh.rowS hh; have hle := Fresh.leS hh; have hfr := hh; clear hh) | (with_reducible have hx := Ext.self hh; clear hx) | (with_reducible have hx := SlV.self hh; clear hx) | (with_reducible have hx := Value.self hh; clear hx) | with_reducible cases hh | skip) | (with_reducible apply AllEq.mk; intro yy hq) | with_reducible apply trivial | with_reducible apply Exists.intro () | (with_reducible apply ex_side; (first | with_reducible assumption | with_reducible apply fracs1 | with_reducible apply fracs2 | with_reducible apply fracs3 | with_reducible apply spans1 | with_reducible apply spans2 | (with_reducible apply NewRow.keep; with_reducible assumption) | (with_reducible apply RowAt.keep; with_reducible assumption) | assumption | (focus ((repeat (first | with_reducible assumption | (with_reducible apply RowAt.le; rotate_left; with_reducible assumption) | (with_reducible apply RowB.le; rotate_left; with_reducible assumption))); done)))) | (with_reducible apply ex_side (a := (_, _)); (focus (with_reducible apply And.intro <;> (focus ((repeat (first | with_reducible assumption | (with_reducible apply RowAt.le; rotate_left; with_reducible assumption) | (with_reducible apply RowB.le; rotate_left; with_reducible assumption))); done))))))); (all_goals (conv => whnf)))
    (all_goals (try dsimp only [Q.eta, Sn.eta, SlV.eta] at *)); (all_goals (first | exact Side.mk trivial | with_reducible exact Side.mk rfl | exact Side.mk (fun _ _ h => h) | exact Side.mk (Made.le (by assumption)) | refine Side.mk ?_ | refine Don.mk ?_ | skip))
    all_goals subst_vars
    all_goals try simp only [outO_ne] at *
    all_goals first | exact ⟨by omega, by omega⟩ | exact ⟨okQ_idx hk60, hu⟩ | (cases h : mulO ⟨k, 1⟩ ⟨a, b⟩ with
      | none => first | (rw [h] at hh; cases hh; done) | (refine ⟨?_, rfl⟩; rw [Int.toNat_natCast, hm, h]; rfl)
      | some y => first | (rw [h] at hh; cases hh; done) | exact ⟨mulO_ok h, he⟩ | (refine ⟨?_, rfl⟩; rw [Int.toNat_natCast, hm, h]; rfl))
abbrev smarkqSp : Sp := .hq sclL 49 I1 (fun s x (l : List Q) E => FracsAt s.errs l E ∧ okQ s.unit = true ∧ ∃ (k : Nat) (e : Q), x.1 = (k : Int) ∧ k ≤ 60 ∧ l[k]? = some e ∧ okQ e = true) RQ (fun s x l => outO (markO s.unit x.1.toNat (l.getD x.1.toNat Q0)))
theorem smarkq_ok : Sp.ok Tryz.prog 110 smarkqSp := Sp.hq_ok smark_ok
theorem okEs_step {u e : Q} {k : Nat} {l : List Q} (hkl : l[k]? = some e) : okEs u k (l.drop k) = (okE u k e && okEs u (k + 1) (l.drop (k + 1))) := by
  rw [List.drop_eq_getElem_cons (List.getElem?_eq_some_iff.1 hkl).1, (List.getElem?_eq_some_iff.1 hkl).2, okEs]
theorem okEs_all {u : Q} : ∀ {l : List Q} {k : Nat}, okEs u k l = true → allOk l = true
  | [], _, _ => rfl
  | a :: r, k, h => by
    simp only [okEs, Bool.and_eq_true] at h
    have h1 := h.1
    simp only [okE, Bool.and_eq_true] at h1
    have h2 : r.all okQ = true := okEs_all h.2
    simp [allOk, h1.1, h2]
abbrev scaleOkSp : Sp := .hf sclL 49 .nil (fun s _ (l : List Q) E => FracsAt s.errs l E) (fun s _ l => .bool (okC s.unit l))

set_option maxRecDepth 100000 in
theorem scaleOk_ok : Sp.ok Tryz.prog 69 scaleOkSp := by
  refine Sp.hf_ok (T := ⟨[(109, witSp), (82, withinSp), (83, validSp), (84, absSp), (110, smarkqSp)], []⟩) follows eqok0 ⟨enters Tryz.func109 rfl rfl, wit_ok, enters Tryz.func82 rfl rfl, in_ok, enters Tryz.func83 rfl rfl, spok_ok, enters Tryz.func84 rfl rfl, abs_ok, enters Tryz.func110 rfl rfl, smarkq_ok, trivial⟩ [(7, .take 0 (.alt 1 (.take 2 (.take 3 (.take 4 (.take 5 (.take 8 (.take 9 (.take 10 (.take 11 (.take 12 (.take 14 (.take 15 (.take 16 (.take 17 (.take 18 (.take 19 (.take 20 (.take 21 (.alt 6 (.take 7 (.take 13 (.take 22 (.take 23 (.done))))) (.last))))))))))))))))))) (.last)))] Tryz.func69 rfl (by kernel_rfl) _ _ _ _ _ fun s x l E hp => ?_
  obtain ⟨⟨a, b⟩, ⟨sa, n, c⟩⟩ := s
  have hat := @FracsAt.at _ _ _ hp
  have hp0 := hp
  obtain ⟨hn, hmax, hnone, _⟩ := hp
  dsimp only at hn hmax hnone hat hp0
  (repeat' ((conv => whnf); (first | with_reducible apply And.intro | (with_reducible intro hh; first | (with_reducible have hx := NewRow.self hh; clear hx) | (with_reducible have hrow := Made.row hh; have hle := Made.le hh; have hmade := hh; clear hh) | (with_reducible have hrow := Fresh.rowS hh; have hle := Fresh.leS hh; have hfr := hh; clear hh) | (with_reducible have hx := Ext.self hh; clear hx) | (with_reducible have hx := SlV.self hh; clear hx) | (with_reducible have hx := Value.self hh; clear hx) | with_reducible cases hh | skip) | (with_reducible apply AllEq.mk; intro yy hq) | with_reducible apply trivial | with_reducible apply Exists.intro () | (with_reducible apply ex_side; (first | with_reducible assumption | with_reducible apply fracs1 | with_reducible apply fracs2 | with_reducible apply fracs3 | with_reducible apply spans1 | with_reducible apply spans2 | (with_reducible apply NewRow.keep; with_reducible assumption) | (with_reducible apply RowAt.keep; with_reducible assumption) | assumption | (focus ((repeat (first | with_reducible assumption | (with_reducible apply RowAt.le; rotate_left; with_reducible assumption) | (with_reducible apply RowB.le; rotate_left; with_reducible assumption))); done)))) | (with_reducible apply ex_side (a := (_, _)); (focus (with_reducible apply And.intro <;> (focus ((repeat (first | with_reducible assumption | (with_reducible apply RowAt.le; rotate_left; with_reducible assumption) | (with_reducible apply RowB.le; rotate_left; with_reducible assumption))); done))))))); (all_goals (conv => whnf)))
  (all_goals (try dsimp only [Q.eta, Sn.eta, SlV.eta] at *)); (all_goals (first | exact Side.mk trivial | with_reducible exact Side.mk rfl | exact Side.mk (fun _ _ h => h) | exact Side.mk (Made.le (by assumption)) | refine Side.mk ?_ | refine Don.mk ?_ | skip))
  all_goals first | (with_reducible refine And.intro ?_ rfl; simp_all [okC]; done) | skip
  rename_i hw
  have hw := not_f hw
  have hl := not_f hh
  rw [hn] at hl
  have h60 := within_iff.1 hl
  obtain ⟨hu, hup⟩ := witQ_ok hw
  clear hh
  have hC : okC ⟨a, b⟩ l = okEs ⟨a, b⟩ 0 l := by simp [okC, hw, hl]
  refine ⟨fun m s => ∃ (k : Nat) (g4 g5 g6 g22 g23 g24 g25 g26 g27 g28 g29 g30 g31 g32 g33 g34 g35 g36 g37 g38 g39 g40 g41 g42 g43 g44 g45 g46 g47 g48 g49 g50 g51 g52 g53 g54 g55 g56 g57 g58 g59 g60 g61 g62 g63 g64 g65 g66 g67 g68 g69 : AV) (w1 w2 w10 w11 w12 w13 w17 w18 w19 w20 w21 : Value), m = l.length - k ∧ k ≤ l.length ∧ okEs ⟨a, b⟩ 0 l = okEs ⟨a, b⟩ k (l.drop k) ∧ s = ⟨[.p 0 0, .v w1, .v w2, .v (.int .i64 k), g4, g5, g6, .p 0 0, .p 0 0, .p 0 0, .v w10, .v w11, .v w12, .v w13, .p 0 0, .p 0 0, .p 0 2, .v w17, .v w18, .v w19, .v w20, .v w21, g22, g23, g24, g25, g26, g27, g28, g29, g30, g31, g32, g33, g34, g35, g36, g37, g38, g39, g40, g41, g42, g43, g44, g45, g46, g47, g48, g49, g50, g51, g52, g53, g54, g55, g56, g57, g58, g59, g60, g61, g62, g63, g64, g65, g66, g67, g68, g69], [([.int .i64 a, .int .i64 b, .slice sa n c], 49)], E⟩, ⟨_, 0, _, _, _, _, _, _, _, _, _, _, _, _, _, _, _, _, _, _, _, _, _, _, _, _, _, _, _, _, _, _, _, _, _, _, _, _, _, _, _, _, _, _, _, _, _, _, _, _, _, _, _, _, _, _, _, _, _, _, _, _, _, _, rfl, Nat.zero_le _, rfl, rfl⟩, ?_⟩
  rintro m s ⟨k, g4, g5, g6, g22, g23, g24, g25, g26, g27, g28, g29, g30, g31, g32, g33, g34, g35, g36, g37, g38, g39, g40, g41, g42, g43, g44, g45, g46, g47, g48, g49, g50, g51, g52, g53, g54, g55, g56, g57, g58, g59, g60, g61, g62, g63, g64, g65, g66, g67, g68, g69, w1, w2, w10, w11, w12, w13, w17, w18, w19, w20, w21, rfl, hk, hs, rfl⟩
  rcases hkl : l[k]? with _ | e
  · have hge := List.getElem?_eq_none_iff.1 hkl
    rw [List.drop_eq_nil_of_le hge] at hs
    (repeat' ((conv => whnf); (first | with_reducible apply And.intro | (with_reducible intro hh; first | (with_reducible have hx := NewRow.self hh; clear hx) | (with_reducible have hrow := Made.row hh; have hle := Made.le hh; have hmade := hh; clear hh) | (with_reducible have hrow := Fresh.rowS hh; have hle := Fresh.leS hh; have hfr := hh; clear hh) | (with_reducible have hx := Ext.self hh; clear hx) | (with_reducible have hx := SlV.self hh; clear hx) | (with_reducible have hx := Value.self hh; clear hx) | with_reducible cases hh | skip) | (with_reducible apply AllEq.mk; intro yy hq) | with_reducible apply trivial | with_reducible apply Exists.intro () | (with_reducible apply ex_side; (first | with_reducible assumption | with_reducible apply fracs1 | with_reducible apply fracs2 | with_reducible apply fracs3 | with_reducible apply spans1 | with_reducible apply spans2 | (with_reducible apply NewRow.keep; with_reducible assumption) | (with_reducible apply RowAt.keep; with_reducible assumption) | assumption | (focus ((repeat (first | with_reducible assumption | (with_reducible apply RowAt.le; rotate_left; with_reducible assumption) | (with_reducible apply RowB.le; rotate_left; with_reducible assumption))); done)))) | (with_reducible apply ex_side (a := (_, _)); (focus (with_reducible apply And.intro <;> (focus ((repeat (first | with_reducible assumption | (with_reducible apply RowAt.le; rotate_left; with_reducible assumption) | (with_reducible apply RowB.le; rotate_left; with_reducible assumption))); done))))))); (all_goals (conv => whnf)))
    (all_goals (try dsimp only [Q.eta, Sn.eta, SlV.eta] at *)); (all_goals (first | exact Side.mk trivial | with_reducible exact Side.mk rfl | exact Side.mk (fun _ _ h => h) | exact Side.mk (Made.le (by assumption)) | refine Side.mk ?_ | refine Don.mk ?_ | skip))
    all_goals try (exfalso; have := of_decide_eq_true (by assumption : decide ((k : Int) < (n : Int)) = true); omega)
    exact ⟨by rw [hC, hs]; rfl, rfl⟩
  · have hlt : k < l.length := (List.getElem?_eq_some_iff.1 hkl).1
    rw [okEs_step hkl] at hs
    have hg : l.getD k Q0 = e := by rw [List.getD_eq_getElem?_getD, hkl]; rfl
    have hsm : smE ⟨a, b⟩ e = !decide (4 * (e.p.natAbs : Int) * b > a * e.q) := rfl
    cases sa with
    | none => rw [hnone rfl] at hkl; cases hkl
    | some ad =>
      obtain ⟨h0, h1⟩ := hat rfl hkl
      by_cases he : okQ e = true
      · have hR : FracsAt ⟨some ad, n, c⟩ l E ∧ okQ ⟨a, b⟩ = true ∧ ∃ (k' : Nat) (e : Q), (k : Int) = (k' : Int) ∧ k' ≤ 60 ∧ l[k']? = some e ∧ okQ e = true := ⟨hp0, hu, k, e, rfl, by omega, hkl, he⟩
        obtain ⟨w1, w2, w3⟩ := sm_wrap hu he
        dsimp only at w1 w2 w3
        have hbi : BI e.p := by have := (okQ_iff.1 he).2.2; unfold BI; omega
        have hE : okE ⟨a, b⟩ k e = (smE ⟨a, b⟩ e && (markO ⟨a, b⟩ k e).isSome) := by rw [okE, he]; rfl
        (repeat' ((conv => whnf); (first | with_reducible apply And.intro | (with_reducible intro hh; first | (with_reducible have hx := NewRow.self hh; clear hx) | (with_reducible have hrow := Made.row hh; have hle := Made.le hh; have hmade := hh; clear hh) | (with_reducible have hrow := Fresh.rowS hh; have hle := Fresh.leS hh; have hfr := hh; clear hh) | (with_reducible have hx := Ext.self hh; clear hx) | (with_reducible have hx := SlV.self hh; clear hx) | (with_reducible have hx := Value.self hh; clear hx) | with_reducible cases hh | skip) | (with_reducible apply AllEq.mk; intro yy hq) | with_reducible apply trivial | with_reducible apply Exists.intro () | (with_reducible apply ex_side; (first | with_reducible assumption | with_reducible apply fracs1 | with_reducible apply fracs2 | with_reducible apply fracs3 | with_reducible apply spans1 | with_reducible apply spans2 | (with_reducible apply NewRow.keep; with_reducible assumption) | (with_reducible apply RowAt.keep; with_reducible assumption) | assumption | (focus ((repeat (first | with_reducible assumption | (with_reducible apply RowAt.le; rotate_left; with_reducible assumption) | (with_reducible apply RowB.le; rotate_left; with_reducible assumption))); done)))) | (with_reducible apply ex_side (a := (_, _)); (focus (with_reducible apply And.intro <;> (focus ((repeat (first | with_reducible assumption | (with_reducible apply RowAt.le; rotate_left; with_reducible assumption) | (with_reducible apply RowB.le; rotate_left; with_reducible assumption))); done))))))); (all_goals (conv => whnf)))
        (all_goals (try dsimp only [Q.eta, Sn.eta, SlV.eta] at *)); (all_goals (first | exact Side.mk trivial | with_reducible exact Side.mk rfl | exact Side.mk (fun _ _ h => h) | exact Side.mk (Made.le (by assumption)) | refine Side.mk ?_ | refine Don.mk ?_ | skip))
        all_goals try subst hq
        all_goals try simp only [w1, w2, w3, outO_ne, Int.toNat_natCast, hg] at *
        all_goals first | exact ⟨by omega, by omega⟩ | exact hbi | (exfalso; have := of_decide_eq_false (by assumption : decide ((k : Int) < (n : Int)) = false); omega) | skip
        all_goals first | (refine ⟨?_, rfl⟩; rw [hC, hs, hE, hsm, hh]; rfl) | skip
        all_goals first | (refine ⟨?_, rfl⟩; rw [hC, hs, hE, ← Option.not_isNone, hh]; simp; done) | skip
        all_goals try (exfalso; simp_all; done)
        · rename_i hsmall
          refine ⟨_, ?_, k + 1, _, _, _, _, _, _, _, _, _, _, _, _, _, _, _, _, _, _, _, _, _, _, _, _, _, _, _, _, _, _, _, _, _, _, _, _, _, _, _, _, _, _, _, _, _, _, _, _, _, _, _, _, _, _, _, _, _, _, _, _, _, _, rfl, hlt, ?_, by first | (rw [wrap_succ (n := n) (by omega) hmax]; done) | (rw [wrap_succ (n := n) (by omega) hmax]; rfl)⟩
          · omega
          · rw [hs, hE, hsm, hsmall, ← Option.not_isNone, hh]
            rfl
      · have hE : okE ⟨a, b⟩ k e = false := by rw [okE, (by simpa using he : okQ e = false)]; rfl
        (repeat' ((conv => whnf); (first | with_reducible apply And.intro | (with_reducible intro hh; first | (with_reducible have hx := NewRow.self hh; clear hx) | (with_reducible have hrow := Made.row hh; have hle := Made.le hh; have hmade := hh; clear hh) | (with_reducible have hrow := Fresh.rowS hh; have hle := Fresh.leS hh; have hfr := hh; clear hh) | (with_reducible have hx := Ext.self hh; clear hx) | (with_reducible have hx := SlV.self hh; clear hx) | (with_reducible have hx := Value.self hh; clear hx) | with_reducible cases hh | skip) | (with_reducible apply AllEq.mk; intro yy hq) | with_reducible apply trivial | with_reducible apply Exists.intro () | (with_reducible apply ex_side; (first | with_reducible assumption | with_reducible apply fracs1 | with_reducible apply fracs2 | with_reducible apply fracs3 | with_reducible apply spans1 | with_reducible apply spans2 | (with_reducible apply NewRow.keep; with_reducible assumption) | (with_reducible apply RowAt.keep; with_reducible assumption) | assumption | (focus ((repeat (first | with_reducible assumption | (with_reducible apply RowAt.le; rotate_left; with_reducible assumption) | (with_reducible apply RowB.le; rotate_left; with_reducible assumption))); done)))) | (with_reducible apply ex_side (a := (_, _)); (focus (with_reducible apply And.intro <;> (focus ((repeat (first | with_reducible assumption | (with_reducible apply RowAt.le; rotate_left; with_reducible assumption) | (with_reducible apply RowB.le; rotate_left; with_reducible assumption))); done))))))); (all_goals (conv => whnf)))
        (all_goals (try dsimp only [Q.eta, Sn.eta, SlV.eta] at *)); (all_goals (first | exact Side.mk trivial | with_reducible exact Side.mk rfl | exact Side.mk (fun _ _ h => h) | exact Side.mk (Made.le (by assumption)) | refine Side.mk ?_ | refine Don.mk ?_ | skip))
        all_goals first | exact ⟨by omega, by omega⟩ | (exfalso; have := of_decide_eq_false (by assumption : decide ((k : Int) < (n : Int)) = false); omega) | (exfalso; exact he (not_f (by assumption))) | (refine ⟨?_, rfl⟩; rw [hC, hs, hE]; rfl)
abbrev scaleOkVSp : Sp := .rf C1A (fun x (l : List Q) E => FracsAt x.1.errs l E) (fun x l => .bool (okC x.1.unit l))

end Go.Proofs.YtadliapkjijahaaGreatDoor
