/- Contracts of both packages' functions on screws and spindles, for all arguments within the bounds that each names; no other condition. -/
import Derived.Test.YtjibkphhlflpeaaAb
import Derived.Test.YtjibkphhlflpeaaC1
import Derived.Test.YtjibkphhlflpeaaC2
import Derived.Test.YtjibkphhlflpeaaC3
import Derived.Test.YtjibkphhlflpeaaC4
import Derived.Test.YtjibkphhlflpeaaC5
import Derived.Test.YtjibkphhlflpeaaCL
import Derived.Test.YtjibkphhlflpeaaC6
import Derived.Test.YtjibkphhlflpeaaC7
import Derived.Test.YtjibkphhlflpeaaC8
import Derived.Test.YtjibkphhlflpeaaC9
import Derived.Test.YtjibkphhlflpeaaCO
import Derived.Test.YtjibkphhlflpeaaProg
set_option linter.unusedVariables false
set_option linter.unusedSimpArgs false
namespace Go.Proofs.Ytjibkphhlflpeaa
open Ab

theorem nat_eq_of_cross {a b c d : Nat} (h : a * d = c * b) (h1 : Nat.gcd a b = 1) (h2 : Nat.gcd c d = 1) (hb : 0 < b) (hd : 0 < d) : b = d := by
  have k1 : b ∣ d := by
    have : b ∣ a * d := ⟨c, by rw [h, Nat.mul_comm]⟩
    exact Nat.Coprime.dvd_of_dvd_mul_left (show Nat.Coprime b a by rw [Nat.coprime_comm]; exact h1) this
  have k2 : d ∣ b := by
    have : d ∣ c * b := ⟨a, by rw [← h, Nat.mul_comm]⟩
    exact Nat.Coprime.dvd_of_dvd_mul_left (show Nat.Coprime d c by rw [Nat.coprime_comm]; exact h2) this
  exact Nat.le_antisymm (Nat.le_of_dvd hd k1) (Nat.le_of_dvd hb k2)
/-- Valid fractions of one value are one. -/
theorem cmp_zero {a b : Q} (ha : okQ a = true) (hb : okQ b = true) (h : cmpQ a b = 0) : a = b := by
  obtain ⟨a1, a2, a3, a4, a5⟩ := okQ_iff.1 ha
  obtain ⟨b1, b2, b3, b4, b5⟩ := okQ_iff.1 hb
  have he : a.p * b.q = b.p * a.q := by
    unfold cmpQ at h
    split at h
    · cases h
    · split at h
      · cases h
      · omega
  have hn : a.p.natAbs * b.q.natAbs = b.p.natAbs * a.q.natAbs := by rw [← Int.natAbs_mul, ← Int.natAbs_mul, he]
  have hq := nat_eq_of_cross hn a5 b5 (by omega) (by omega)
  have hq' : a.q = b.q := by omega
  have hp : a.p = b.p := by
    rw [hq'] at he
    exact Int.eq_of_mul_eq_mul_right (by omega) he
  cases a
  cases b
  simp_all
theorem greQ_comm {a b : Q} (ha : okQ a = true) (hb : okQ b = true) : greQ a b = greQ b a := by
  unfold greQ
  have hn := cmpQ_neg a b
  by_cases h : cmpQ a b = 0
  · rw [cmp_zero ha hb h]
  · by_cases h1 : 0 ≤ cmpQ a b
    · rw [if_pos h1, if_neg (by omega)]
    · rw [if_neg h1, if_pos (by omega)]
theorem lesQ_comm {a b : Q} (ha : okQ a = true) (hb : okQ b = true) : lesQ a b = lesQ b a := by
  unfold lesQ
  have hn := cmpQ_neg a b
  by_cases h : cmpQ a b = 0
  · rw [cmp_zero ha hb h]
  · by_cases h1 : cmpQ a b ≤ 0
    · rw [if_pos h1, if_neg (by omega)]
    · rw [if_neg h1, if_pos (by omega)]
def nutO (m : Scr) (t : Int) : Option Q := (mulO ⟨t, 1⟩ m.pitch).bind fun a => divO a ⟨m.parts, 1⟩
def endsO (m : Scr) (t : Int) : Option Sn := (nutO m t).bind fun n => (subO n m.play).map fun l => ⟨l, n⟩
def outS (o : Option Sn) : Sn × Int := match o with
  | some s => (s, 0)
  | none => (⟨⟨0, 0⟩, ⟨0, 0⟩⟩, 3)
theorem outS_ne (o : Option Sn) : ((outS o).2 != 0) = o.isNone := by cases o <;> rfl
theorem outS_eq (o : Option Sn) : ((outS o).2 == 0) = o.isSome := by cases o <;> rfl
theorem nutO_ok {m : Scr} {t : Int} {a : Q} (h : nutO m t = some a) : okQ a = true := by
  unfold nutO at h
  cases h1 : mulO ⟨t, 1⟩ m.pitch with
  | none => rw [h1] at h; cases h
  | some b => rw [h1] at h; exact divO_ok h
theorem endsO_ok {m : Scr} {t : Int} {e : Sn} (h : endsO m t = some e) : okQ e.lo = true ∧ okQ e.hi = true := by
  unfold endsO at h
  cases h1 : nutO m t with
  | none => rw [h1] at h; cases h
  | some b =>
    rw [h1] at h
    cases h2 : subO b m.play with
    | none => simp [h2] at h
    | some c =>
      simp [h2] at h
      subst h
      exact ⟨subO_ok h2, nutO_ok h1⟩
/-- What the calculator makes of it. -/
def nutA (m : Scr) (t : Int) : Q := tolO (divO (tolO (mulO ⟨t, 1⟩ m.pitch)) ⟨m.parts, 1⟩)
def nutL (m : Scr) (t : Int) : Q := tolO (subO (nutA m t) m.play)
def nutB (m : Scr) (t : Int) : Bool := (mulO ⟨t, 1⟩ m.pitch).isNone || (divO (tolO (mulO ⟨t, 1⟩ m.pitch)) ⟨m.parts, 1⟩).isNone || (subO (nutA m t) m.play).isNone
theorem nutB_none (m : Scr) (t : Int) : nutB m t = (endsO m t).isNone := by
  unfold nutB endsO nutA nutO
  cases h1 : mulO ⟨t, 1⟩ m.pitch with
  | none => rfl
  | some a =>
    simp only [tolO_some, Option.bind_some]
    cases h2 : divO a ⟨m.parts, 1⟩ with
    | none => rfl
    | some b =>
      simp only [tolO_some, Option.bind_some]
      cases h3 : subO b m.play <;> rfl
theorem nut_some {m : Scr} {t : Int} {e : Sn} (h : endsO m t = some e) : nutA m t = e.hi ∧ nutL m t = e.lo ∧ nutO m t = some e.hi := by
  unfold nutL nutA endsO nutO at *
  cases h1 : mulO ⟨t, 1⟩ m.pitch with
  | none => rw [h1] at h; cases h
  | some a =>
    rw [h1] at h
    simp only [tolO_some, Option.bind_some] at *
    cases h2 : divO a ⟨m.parts, 1⟩ with
    | none => rw [h2] at h; cases h
    | some b =>
      rw [h2] at h
      simp only [tolO_some, Option.bind_some] at *
      cases h3 : subO b m.play with
      | none => rw [h3] at h; cases h
      | some c =>
        rw [h3] at h
        cases h
        exact ⟨by first | rfl | simp only [tolO_some], by first | rfl | simp only [tolO_some], by first | rfl | simp only [tolO_some]⟩
theorem okQ_nutA (m : Scr) (t : Int) : okQ (nutA m t) = true := tolO_div _ _
theorem okQ_nutL (m : Scr) (t : Int) : okQ (nutL m t) = true := tolO_sub _ _
theorem parts_whole {m : Scr} (h : okM m = true) : okQ ⟨m.parts, 1⟩ = true := by
  have := okM_parts h
  exact okQ_whole (within_iff.2 (by omega))
abbrev MI : ArgL (Scr × Int × Unit) := .cons scrA (.cons .int .nil)
abbrev QQ (r : Q × Q) : Value := .tuple #[r.1.v, r.2.v]
abbrev nutSp : Sp := .sf SC 67 MI (fun _ x => okM x.1 = true ∧ M9 x.2.1 = true) (fun _ x => QQ (nutA x.1 x.2.1, nutL x.1 x.2.1)) (fun s x => (s.1 || nutB x.1 x.2.1, ()))
set_option maxRecDepth 100000 in
theorem nut_ok : Sp.ok Try.prog 31 nutSp := by
  refine Sp.sf_ok (T := ⟨[(43, wholeSp), (45, tmulqSp), (44, tdivqSp), (46, tsubqSp)], []⟩) follows eqok0 ⟨enters Try.func43 rfl rfl, num_ok, enters Try.func45 rfl rfl, tmulq_ok, enters Try.func44 rfl rfl, tdivq_ok, enters Try.func46 rfl rfl, tsubq_ok, trivial⟩ [(1, .take 0 (.take 1 (.take 2 (.take 4 (.take 5 (.take 7 (.take 8 (.alt 3 (.alt 6 (.alt 9 (.alt 10 (.alt 11 (.alt 12 (.done) (.last)) (.last)) (.alt 11 (.alt 10 (.alt 12 (.done) (.last)) (.last)) (.last))) (.alt 11 (.alt 9 (.alt 10 (.alt 12 (.done) (.last)) (.last)) (.last)) (.last))) (.alt 11 (.alt 6 (.alt 9 (.alt 10 (.alt 12 (.done) (.last)) (.last)) (.last)) (.last)) (.last))) (.alt 11 (.alt 3 (.alt 6 (.alt 9 (.alt 10 (.alt 12 (.done) (.last)) (.last)) (.last)) (.last)) (.last)) (.last)))))))))), (2, .take 0 (.take 1 (.take 2 (.take 3 (.take 4 (.alt 5 (.alt 6 (.alt 7 (.done) (.last)) (.last)) (.last)))))))] Try.func31 rfl (by kernel_rfl) _ _ _ _ _ _ fun s x E hp => ?_
  obtain ⟨b0, u⟩ := s
  obtain ⟨⟨⟨a, b⟩, n, ⟨c, d⟩⟩, t, u⟩ := x
  (repeat' ((conv => whnf); (first | with_reducible apply And.intro | (with_reducible intro hh; first | (with_reducible have hx := NewRow.self hh; clear hx) | (with_reducible have hrow := Made.row hh; have hle := Made.le hh; have hmade := hh; clear hh) | (with_reducible have hrow := Fresh.rowS hh; have hle := Fresh.leS hh; have hfr := hh; clear hh) | (with_reducible have hx := Ext.self hh; clear hx) | (with_reducible have hx := SlV.self hh; clear hx) | (with_reducible have hx := Value.self hh; clear hx) | with_reducible cases hh | skip) | (with_reducible apply AllEq.mk; intro yy hq) | with_reducible apply trivial | with_reducible apply Exists.intro () | (with_reducible apply ex_side; (first | with_reducible assumption | with_reducible apply fracs1 | with_reducible apply fracs2 | with_reducible apply fracs3 | with_reducible apply spans1 | with_reducible apply spans2 | (with_reducible apply NewRow.keep; with_reducible assumption) | (with_reducible apply RowAt.keep; with_reducible assumption) | assumption | (focus ((repeat (first | with_reducible assumption | (with_reducible apply RowAt.le; rotate_left; with_reducible assumption) | (with_reducible apply RowB.le; rotate_left; with_reducible assumption))); done)))) | (with_reducible apply ex_side (a := (_, _)); (focus (with_reducible apply And.intro <;> (focus ((repeat (first | with_reducible assumption | (with_reducible apply RowAt.le; rotate_left; with_reducible assumption) | (with_reducible apply RowB.le; rotate_left; with_reducible assumption))); done))))))); (all_goals (conv => whnf)))
  (all_goals (try dsimp only [Q.eta, Sn.eta, SlV.eta] at *)); (all_goals (first | exact Side.mk trivial | with_reducible exact Side.mk rfl | exact Side.mk (fun _ _ h => h) | exact Side.mk (Made.le (by assumption)) | refine Side.mk ?_ | refine Don.mk ?_ | skip))
  all_goals subst_vars
  all_goals first | exact ⟨okQ_whole hp.2, okM_pitch hp.1⟩ | exact ⟨tolO_mul _ _, parts_whole hp.1⟩ | exact ⟨tolO_div _ _, okM_play hp.1⟩ | exact ⟨rfl, st_eq (by simp only [nutB, nutA, Bool.or_assoc])⟩
abbrev nutqSp : Sp := .sq SC 67 MI (fun _ x => okM x.1 = true ∧ M9 x.2.1 = true) QQ (fun _ x => (nutA x.1 x.2.1, nutL x.1 x.2.1)) (fun s x => (s.1 || nutB x.1 x.2.1, ()))
theorem nutq_ok : Sp.ok Try.prog 31 nutqSp := Sp.sq_ok nut_ok
abbrev snutSp : Sp := .hf scrL 32 I1 (fun s x (_ : Unit) _ => okM s = true ∧ M9 x.1 = true) (fun s x _ => RQ (outO (nutO s x.1)))
set_option maxRecDepth 100000 in
theorem snut_ok : Sp.ok Try.prog 39 snutSp := by
  refine Sp.hf_ok (T := ⟨[(49, wholeSp), (50, omulqSp), (51, odivqSp)], []⟩) follows eqok0 ⟨enters Try.func49 rfl rfl, whole_ok, enters Try.func50 rfl rfl, omulq_ok, enters Try.func51 rfl rfl, odivq_ok, trivial⟩ [(1, .take 0 (.take 2 (.take 3 (.take 4 (.take 5 (.alt 1 (.alt 6 (.take 7 (.take 8 (.take 9 (.alt 10 (.alt 11 (.take 12 (.done)) (.last)) (.last))))) (.alt 10 (.alt 6 (.take 7 (.take 8 (.take 9 (.alt 11 (.take 12 (.done)) (.last))))) (.last)) (.last))) (.alt 10 (.alt 1 (.alt 6 (.take 7 (.take 8 (.take 9 (.alt 11 (.take 12 (.done)) (.last))))) (.last)) (.last)) (.last)))))))), (4, .take 0 (.take 1 (.take 2 (.take 3 (.take 4 (.alt 5 (.alt 6 (.take 7 (.take 8 (.alt 9 (.take 10 (.done)) (.last)))) (.last)) (.last)))))))] Try.func39 rfl (by kernel_rfl) _ _ _ _ _ fun s x l E hp => ?_
  obtain ⟨⟨a, b⟩, n, ⟨c, d⟩⟩ := s
  obtain ⟨t, u⟩ := x
  have hn : n ≠ 0 := by have := okM_parts hp.1; dsimp only at this; omega
  have hm : nutO ⟨⟨a, b⟩, n, ⟨c, d⟩⟩ t = (mulO ⟨t, 1⟩ ⟨a, b⟩).bind fun x => divO x ⟨n, 1⟩ := rfl
  (repeat' ((conv => whnf); (first | with_reducible apply And.intro | (with_reducible intro hh; first | (with_reducible have hx := NewRow.self hh; clear hx) | (with_reducible have hrow := Made.row hh; have hle := Made.le hh; have hmade := hh; clear hh) | (with_reducible have hrow := Fresh.rowS hh; have hle := Fresh.leS hh; have hfr := hh; clear hh) | (with_reducible have hx := Ext.self hh; clear hx) | (with_reducible have hx := SlV.self hh; clear hx) | (with_reducible have hx := Value.self hh; clear hx) | with_reducible cases hh | skip) | (with_reducible apply AllEq.mk; intro yy hq) | with_reducible apply trivial | with_reducible apply Exists.intro () | (with_reducible apply ex_side; (first | with_reducible assumption | with_reducible apply fracs1 | with_reducible apply fracs2 | with_reducible apply fracs3 | with_reducible apply spans1 | with_reducible apply spans2 | (with_reducible apply NewRow.keep; with_reducible assumption) | (with_reducible apply RowAt.keep; with_reducible assumption) | assumption | (focus ((repeat (first | with_reducible assumption | (with_reducible apply RowAt.le; rotate_left; with_reducible assumption) | (with_reducible apply RowB.le; rotate_left; with_reducible assumption))); done)))) | (with_reducible apply ex_side (a := (_, _)); (focus (with_reducible apply And.intro <;> (focus ((repeat (first | with_reducible assumption | (with_reducible apply RowAt.le; rotate_left; with_reducible assumption) | (with_reducible apply RowB.le; rotate_left; with_reducible assumption))); done))))))); (all_goals (conv => whnf)))
  (all_goals (try dsimp only [Q.eta, Sn.eta, SlV.eta] at *)); (all_goals (first | exact Side.mk trivial | with_reducible exact Side.mk rfl | exact Side.mk (fun _ _ h => h) | exact Side.mk (Made.le (by assumption)) | refine Side.mk ?_ | refine Don.mk ?_ | skip))
  all_goals subst_vars
  all_goals try simp only [outO_ne] at *
  all_goals first | exact ⟨okQ_whole hp.2, okM_pitch hp.1⟩ | (cases h : mulO ⟨t, 1⟩ ⟨a, b⟩ with
    | none => first | (rw [h] at hh; cases hh; done) | (refine ⟨?_, rfl⟩; rw [hm, h]; rfl)
    | some y => first | (rw [h] at hh; cases hh; done) | exact ⟨⟨mulO_ok h, parts_whole hp.1⟩, hn⟩ | (refine ⟨?_, rfl⟩; rw [hm, h]; rfl))
abbrev snutqSp : Sp := .hq scrL 32 I1 (fun s x (_ : Unit) _ => okM s = true ∧ M9 x.1 = true) RQ (fun s x _ => outO (nutO s x.1))
theorem snutq_ok : Sp.ok Try.prog 39 snutqSp := Sp.hq_ok snut_ok
theorem both_ends {o : Option Q} {n : Q} : bothR (outO o).1 (outO o).2 n 0 = outS (o.map fun l => ⟨l, n⟩) := by cases o <;> rfl
abbrev sendsSp : Sp := .hf scrL 32 I1 (fun s x (_ : Unit) _ => okM s = true ∧ M9 x.1 = true) (fun s x _ => RS (outS (endsO s x.1)))
set_option maxRecDepth 100000 in
theorem sends_ok : Sp.ok Try.prog 28 sendsSp := by
  refine Sp.hf_ok (T := ⟨[(39, snutqSp), (40, osubqSp), (41, bothSp)], []⟩) follows eqok0 ⟨enters Try.func39 rfl rfl, snutq_ok, enters Try.func40 rfl rfl, osubq_ok, enters Try.func41 rfl rfl, both_ok, trivial⟩ [(4, .take 0 (.take 1 (.take 2 (.take 3 (.take 4 (.alt 5 (.take 6 (.take 7 (.take 8 (.alt 9 (.alt 10 (.take 11 (.done)) (.last)) (.last))))) (.alt 9 (.alt 5 (.take 6 (.take 7 (.take 8 (.alt 10 (.take 11 (.done)) (.last))))) (.last)) (.last))))))))] Try.func28 rfl (by kernel_rfl) _ _ _ _ _ fun s x l E hp => ?_
  obtain ⟨⟨a, b⟩, n, ⟨c, d⟩⟩ := s
  obtain ⟨t, u⟩ := x
  have hm : endsO ⟨⟨a, b⟩, n, ⟨c, d⟩⟩ t = (nutO ⟨⟨a, b⟩, n, ⟨c, d⟩⟩ t).bind fun n => (subO n ⟨c, d⟩).map fun l => ⟨l, n⟩ := rfl
  (repeat' ((conv => whnf); (first | with_reducible apply And.intro | (with_reducible intro hh; first | (with_reducible have hx := NewRow.self hh; clear hx) | (with_reducible have hrow := Made.row hh; have hle := Made.le hh; have hmade := hh; clear hh) | (with_reducible have hrow := Fresh.rowS hh; have hle := Fresh.leS hh; have hfr := hh; clear hh) | (with_reducible have hx := Ext.self hh; clear hx) | (with_reducible have hx := SlV.self hh; clear hx) | (with_reducible have hx := Value.self hh; clear hx) | with_reducible cases hh | skip) | (with_reducible apply AllEq.mk; intro yy hq) | with_reducible apply trivial | with_reducible apply Exists.intro () | (with_reducible apply ex_side; (first | with_reducible assumption | with_reducible apply fracs1 | with_reducible apply fracs2 | with_reducible apply fracs3 | with_reducible apply spans1 | with_reducible apply spans2 | (with_reducible apply NewRow.keep; with_reducible assumption) | (with_reducible apply RowAt.keep; with_reducible assumption) | assumption | (focus ((repeat (first | with_reducible assumption | (with_reducible apply RowAt.le; rotate_left; with_reducible assumption) | (with_reducible apply RowB.le; rotate_left; with_reducible assumption))); done)))) | (with_reducible apply ex_side (a := (_, _)); (focus (with_reducible apply And.intro <;> (focus ((repeat (first | with_reducible assumption | (with_reducible apply RowAt.le; rotate_left; with_reducible assumption) | (with_reducible apply RowB.le; rotate_left; with_reducible assumption))); done))))))); (all_goals (conv => whnf)))
  (all_goals (try dsimp only [Q.eta, Sn.eta, SlV.eta] at *)); (all_goals (first | exact Side.mk trivial | with_reducible exact Side.mk rfl | exact Side.mk (fun _ _ h => h) | exact Side.mk (Made.le (by assumption)) | refine Side.mk ?_ | refine Don.mk ?_ | skip))
  all_goals subst_vars
  all_goals try simp only [outO_ne] at *
  all_goals first | exact hp | (cases h : nutO ⟨⟨a, b⟩, n, ⟨c, d⟩⟩ t with
    | none => first | (rw [h] at hh; cases hh; done) | (refine ⟨?_, rfl⟩; rw [hm, h]; rfl)
    | some y => first | (rw [h] at hh; cases hh; done) | exact ⟨nutO_ok h, okM_play hp.1⟩ | (refine ⟨?_, rfl⟩; rw [hm, h, Option.bind_some, ← both_ends]; rfl))
abbrev sendsqSp : Sp := .hq scrL 32 I1 (fun s x (_ : Unit) _ => okM s = true ∧ M9 x.1 = true) RS (fun s x _ => outS (endsO s x.1))
theorem sendsq_ok : Sp.ok Try.prog 28 sendsqSp := Sp.hq_ok sends_ok
/-! spindles -/
def okX (m : Scr) (x : Spn) : Bool := okM m && (withinB x.turned (-10000) 10000 && (okQ x.pos && (match endsO m x.turned with
  | some e => inS e x.pos
  | none => false)))
abbrev XL : ArgL (Scr × Spn × Unit) := .cons scrA (.cons spnA .nil)
abbrev XI : ArgL (Scr × Spn × Int × Unit) := .cons scrA (.cons spnA (.cons .int .nil))
theorem M9_of {n : Int} (h : -1000000000 ≤ n) (h' : n ≤ 1000000000) : M9 n = true := within_iff.2 ⟨h, h'⟩
theorem okX_iff {m : Scr} {x : Spn} (h : okX m x = true) : okM m = true ∧ withinB x.turned (-10000) 10000 = true ∧ okQ x.pos = true ∧ ∃ e, endsO m x.turned = some e ∧ inS e x.pos = true := by
  unfold okX at h
  simp only [Bool.and_eq_true] at h
  obtain ⟨h1, h2, h3, h4⟩ := h
  refine ⟨h1, h2, h3, ?_⟩
  cases he : endsO m x.turned with
  | none => rw [he] at h4; cases h4
  | some e => rw [he] at h4; exact ⟨e, rfl, h4⟩
theorem M9_in {n : Int} (h : withinB n (-10000) 10000 = true) : M9 n = true := by
  have := within_iff.1 h
  exact M9_of (by omega) (by omega)
abbrev spinVSp : Sp := .pf XL (fun _ => True) (fun x => .bool (okX x.1 x.2.1))
set_option maxRecDepth 100000 in
theorem spinV_ok : Sp.ok Try.prog 16 spinVSp := by
  refine Sp.pf_ok (T := ⟨[(30, scrVSp), (17, withinSp), (23, validSp), (31, nutqSp), (24, cmpSp)], []⟩) follows eqok0 ⟨enters Try.func30 rfl rfl, scrV_ok, enters Try.func17 rfl rfl, within_ok, enters Try.func23 rfl rfl, valid_ok, enters Try.func31 rfl rfl, nutq_ok, enters Try.func24 rfl rfl, cmp_ok, trivial⟩ [] Try.func16 rfl (by kernel_rfl) _ _ _ fun x E hp => ?_
  obtain ⟨⟨⟨a, b⟩, n, ⟨c, d⟩⟩, ⟨t, ⟨p, q⟩⟩, u⟩ := x
  have he : okX ⟨⟨a, b⟩, n, ⟨c, d⟩⟩ ⟨t, ⟨p, q⟩⟩ = (okM ⟨⟨a, b⟩, n, ⟨c, d⟩⟩ && (withinB t (-10000) 10000 && (okQ ⟨p, q⟩ && (match endsO ⟨⟨a, b⟩, n, ⟨c, d⟩⟩ t with | some e => inS e ⟨p, q⟩ | none => false)))) := rfl
  have hnb := nutB_none ⟨⟨a, b⟩, n, ⟨c, d⟩⟩ t
  have hns := @nut_some ⟨⟨a, b⟩, n, ⟨c, d⟩⟩ t
  have hA := okQ_nutA ⟨⟨a, b⟩, n, ⟨c, d⟩⟩ t
  have hL := okQ_nutL ⟨⟨a, b⟩, n, ⟨c, d⟩⟩ t
  (repeat' ((conv => whnf); (first | with_reducible apply And.intro | (with_reducible intro hh; first | (with_reducible have hx := NewRow.self hh; clear hx) | (with_reducible have hrow := Made.row hh; have hle := Made.le hh; have hmade := hh; clear hh) | (with_reducible have hrow := Fresh.rowS hh; have hle := Fresh.leS hh; have hfr := hh; clear hh) | (with_reducible have hx := Ext.self hh; clear hx) | (with_reducible have hx := SlV.self hh; clear hx) | (with_reducible have hx := Value.self hh; clear hx) | with_reducible cases hh | skip) | (with_reducible apply AllEq.mk; intro yy hq) | with_reducible apply trivial | with_reducible apply Exists.intro () | (with_reducible apply ex_side; (first | with_reducible assumption | with_reducible apply fracs1 | with_reducible apply fracs2 | with_reducible apply fracs3 | with_reducible apply spans1 | with_reducible apply spans2 | (with_reducible apply NewRow.keep; with_reducible assumption) | (with_reducible apply RowAt.keep; with_reducible assumption) | assumption | (focus ((repeat (first | with_reducible assumption | (with_reducible apply RowAt.le; rotate_left; with_reducible assumption) | (with_reducible apply RowB.le; rotate_left; with_reducible assumption))); done)))) | (with_reducible apply ex_side (a := (_, _)); (focus (with_reducible apply And.intro <;> (focus ((repeat (first | with_reducible assumption | (with_reducible apply RowAt.le; rotate_left; with_reducible assumption) | (with_reducible apply RowB.le; rotate_left; with_reducible assumption))); done))))))); (all_goals (conv => whnf)))
  (all_goals (try dsimp only [Q.eta, Sn.eta, SlV.eta] at *)); (all_goals (first | exact Side.mk trivial | with_reducible exact Side.mk rfl | exact Side.mk (fun _ _ h => h) | exact Side.mk (Made.le (by assumption)) | refine Side.mk ?_ | refine Don.mk ?_ | skip))
  all_goals subst_vars
  all_goals generalize endsO ⟨⟨a, b⟩, n, ⟨c, d⟩⟩ t = o at *
  all_goals generalize nutA ⟨⟨a, b⟩, n, ⟨c, d⟩⟩ t = A at *
  all_goals generalize nutL ⟨⟨a, b⟩, n, ⟨c, d⟩⟩ t = L at *
  all_goals generalize nutB ⟨⟨a, b⟩, n, ⟨c, d⟩⟩ t = B at *
  all_goals subst hnb
  all_goals first | exact ⟨not_f (by assumption), M9_in (not_f (by assumption))⟩ | exact ⟨hL, not_f (by assumption)⟩ | exact ⟨not_f (by assumption), hA⟩ | skip
  all_goals rw [he]
  all_goals cases o with
    | none => simp_all
    | some e => first | (simp_all [inS]; done) | (simp_all [inS]; omega)
abbrev spinPSp : Sp := .hf2 scrL 32 spnL 35 .nil (fun _ _ _ (_ : Unit) _ => True) (fun m x _ _ => .bool (okX m x))
set_option maxRecDepth 100000 in
theorem spinP_ok : Sp.ok Try.prog 13 spinPSp := by
  refine Sp.hf2_ok (T := ⟨[(27, scrPSp), (14, withinSp), (20, validSp), (28, sendsqSp), (29, inPSp)], []⟩) follows eqok0 ⟨enters Try.func27 rfl rfl, scrP_ok, enters Try.func14 rfl rfl, in_ok, enters Try.func20 rfl rfl, spok_ok, enters Try.func28 rfl rfl, sendsq_ok, enters Try.func29 rfl rfl, inP_ok, trivial⟩ [] Try.func13 rfl (by kernel_rfl) _ _ _ _ _ _ _ fun m x _ l E hp => ?_
  obtain ⟨⟨a, b⟩, n, ⟨c, d⟩⟩ := m
  obtain ⟨t, ⟨p, q⟩⟩ := x
  have he : okX ⟨⟨a, b⟩, n, ⟨c, d⟩⟩ ⟨t, ⟨p, q⟩⟩ = (okM ⟨⟨a, b⟩, n, ⟨c, d⟩⟩ && (withinB t (-10000) 10000 && (okQ ⟨p, q⟩ && (match endsO ⟨⟨a, b⟩, n, ⟨c, d⟩⟩ t with | some e => inS e ⟨p, q⟩ | none => false)))) := rfl
  have ho := @endsO_ok ⟨⟨a, b⟩, n, ⟨c, d⟩⟩ t
  (repeat' ((conv => whnf); (first | with_reducible apply And.intro | (with_reducible intro hh; first | (with_reducible have hx := NewRow.self hh; clear hx) | (with_reducible have hrow := Made.row hh; have hle := Made.le hh; have hmade := hh; clear hh) | (with_reducible have hrow := Fresh.rowS hh; have hle := Fresh.leS hh; have hfr := hh; clear hh) | (with_reducible have hx := Ext.self hh; clear hx) | (with_reducible have hx := SlV.self hh; clear hx) | (with_reducible have hx := Value.self hh; clear hx) | with_reducible cases hh | skip) | (with_reducible apply AllEq.mk; intro yy hq) | with_reducible apply trivial | with_reducible apply Exists.intro () | (with_reducible apply ex_side; (first | with_reducible assumption | with_reducible apply fracs1 | with_reducible apply fracs2 | with_reducible apply fracs3 | with_reducible apply spans1 | with_reducible apply spans2 | (with_reducible apply NewRow.keep; with_reducible assumption) | (with_reducible apply RowAt.keep; with_reducible assumption) | assumption | (focus ((repeat (first | with_reducible assumption | (with_reducible apply RowAt.le; rotate_left; with_reducible assumption) | (with_reducible apply RowB.le; rotate_left; with_reducible assumption))); done)))) | (with_reducible apply ex_side (a := (_, _)); (focus (with_reducible apply And.intro <;> (focus ((repeat (first | with_reducible assumption | (with_reducible apply RowAt.le; rotate_left; with_reducible assumption) | (with_reducible apply RowB.le; rotate_left; with_reducible assumption))); done))))))); (all_goals (conv => whnf)))
  (all_goals (try dsimp only [Q.eta, Sn.eta, SlV.eta] at *)); (all_goals (first | exact Side.mk trivial | with_reducible exact Side.mk rfl | exact Side.mk (fun _ _ h => h) | exact Side.mk (Made.le (by assumption)) | refine Side.mk ?_ | refine Don.mk ?_ | skip))
  all_goals subst_vars
  all_goals generalize endsO ⟨⟨a, b⟩, n, ⟨c, d⟩⟩ t = o at *
  all_goals first | exact ⟨not_f (by assumption), M9_in (not_f (by assumption))⟩ | skip
  all_goals try simp only [outS_eq] at *
  all_goals cases o with
    | none => first | (cases hh; done) | (refine ⟨?_, rfl, rfl⟩; rw [he]; simp_all)
    | some e => first | (cases hh; done) | exact ⟨(ho rfl).1, (ho rfl).2, not_f (by assumption)⟩ | (refine ⟨?_, rfl, rfl⟩; rw [he]; simp_all [outS])
abbrev X1 : ArgL (Spn × Unit) := .cons spnA .nil
abbrev toSpinSp : Sp := .pf X1 (fun _ => True) (fun x => x.1.v)
set_option maxRecDepth 100000 in
theorem toSpin_ok : Sp.ok Try.prog 7 toSpinSp := by
  refine Sp.pf_ok (T := ⟨[(10, toFracSp)], []⟩) follows eqok0 ⟨enters Try.func10 rfl rfl, toFrac_ok, trivial⟩ [] Try.func7 rfl (by kernel_rfl) _ _ _ fun x E hp => ?_
  obtain ⟨⟨t, ⟨p, q⟩⟩, u⟩ := x
  (repeat' ((conv => whnf); (first | with_reducible apply And.intro | (with_reducible intro hh; first | (with_reducible have hx := NewRow.self hh; clear hx) | (with_reducible have hrow := Made.row hh; have hle := Made.le hh; have hmade := hh; clear hh) | (with_reducible have hrow := Fresh.rowS hh; have hle := Fresh.leS hh; have hfr := hh; clear hh) | (with_reducible have hx := Ext.self hh; clear hx) | (with_reducible have hx := SlV.self hh; clear hx) | (with_reducible have hx := Value.self hh; clear hx) | with_reducible cases hh | skip) | (with_reducible apply AllEq.mk; intro yy hq) | with_reducible apply trivial | with_reducible apply Exists.intro () | (with_reducible apply ex_side; (first | with_reducible assumption | with_reducible apply fracs1 | with_reducible apply fracs2 | with_reducible apply fracs3 | with_reducible apply spans1 | with_reducible apply spans2 | (with_reducible apply NewRow.keep; with_reducible assumption) | (with_reducible apply RowAt.keep; with_reducible assumption) | assumption | (focus ((repeat (first | with_reducible assumption | (with_reducible apply RowAt.le; rotate_left; with_reducible assumption) | (with_reducible apply RowB.le; rotate_left; with_reducible assumption))); done)))) | (with_reducible apply ex_side (a := (_, _)); (focus (with_reducible apply And.intro <;> (focus ((repeat (first | with_reducible assumption | (with_reducible apply RowAt.le; rotate_left; with_reducible assumption) | (with_reducible apply RowB.le; rotate_left; with_reducible assumption))); done))))))); (all_goals (conv => whnf)))
  (all_goals (try dsimp only [Q.eta, Sn.eta, SlV.eta] at *)); (all_goals (first | exact Side.mk trivial | with_reducible exact Side.mk rfl | exact Side.mk (fun _ _ h => h) | exact Side.mk (Made.le (by assumption)) | refine Side.mk ?_ | refine Don.mk ?_ | skip))
  rfl

end Go.Proofs.Ytjibkphhlflpeaa
