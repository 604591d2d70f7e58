/- Contracts of both packages' functions on the doubt of a reading, for all scales that lie in memory; no other condition. -/
import Derived.Test.YtbgjokadfkblmabAb
import Derived.Test.YtbgjokadfkblmabC1
import Derived.Test.YtbgjokadfkblmabC2
import Derived.Test.YtbgjokadfkblmabC3
import Derived.Test.YtbgjokadfkblmabC4
import Derived.Test.YtbgjokadfkblmabC5
import Derived.Test.YtbgjokadfkblmabC6
import Derived.Test.YtbgjokadfkblmabC7
import Derived.Test.YtbgjokadfkblmabC8
import Derived.Test.YtbgjokadfkblmabC9
import Derived.Test.YtbgjokadfkblmabCO
import Derived.Test.YtbgjokadfkblmabC12
import Derived.Test.YtbgjokadfkblmabC13
import Derived.Test.YtbgjokadfkblmabC14
import Derived.Test.YtbgjokadfkblmabC15
import Derived.Test.YtbgjokadfkblmabC16
import Derived.Test.YtbgjokadfkblmabC17
import Derived.Test.YtbgjokadfkblmabC18
import Derived.Test.YtbgjokadfkblmabC19
import Derived.Test.YtbgjokadfkblmabC20
import Derived.Test.YtbgjokadfkblmabCL
import Derived.Test.YtbgjokadfkblmabProg
set_option linter.unusedVariables false
set_option linter.unusedSimpArgs false
namespace Go.Proofs.Ytbgjokadfkblmab
open Ab

abbrev CV' : ArgL (Scl × Ver × Unit) := .cons sclA (.cons (.agg VL) .nil)
/-- What a reading may be off by, of the unit, the vernier's parts and the worst error. -/
def opnO (u : Q) (p : Int) (w : Q) : Option Q := (divO u ⟨2 * p, 1⟩).bind fun h => (mulO ⟨2, 1⟩ w).bind fun d => addO h d
def opnT (u : Q) (p : Int) (w : Q) : Q := tolO (addO (tolO (divO u ⟨2 * p, 1⟩)) (tolO (mulO ⟨2, 1⟩ w)))
def opnB (u : Q) (p : Int) (w : Q) : Bool := (divO u ⟨2 * p, 1⟩).isNone || (mulO ⟨2, 1⟩ w).isNone || (addO (tolO (divO u ⟨2 * p, 1⟩)) (tolO (mulO ⟨2, 1⟩ w))).isNone
theorem opnO_c1 {u w : Q} {p : Int} (h : divO u ⟨2 * p, 1⟩ = none) : opnO u p w = none := by
  unfold opnO
  rw [h]
  rfl
theorem opnO_c2 {u w h : Q} {p : Int} (h1 : divO u ⟨2 * p, 1⟩ = some h) (h2 : mulO ⟨2, 1⟩ w = none) : opnO u p w = none := by
  unfold opnO
  rw [h1, Option.bind_some, h2]
  rfl
theorem opnO_c3 {u w h d : Q} {p : Int} (h1 : divO u ⟨2 * p, 1⟩ = some h) (h2 : mulO ⟨2, 1⟩ w = some d) : opnO u p w = addO h d := by
  unfold opnO
  rw [h1, Option.bind_some, h2]
  rfl
theorem opnB_none (u : Q) (p : Int) (w : Q) : opnB u p w = (opnO u p w).isNone := by
  unfold opnB
  cases h1 : divO u ⟨2 * p, 1⟩ with
  | none => rw [opnO_c1 h1]; simp
  | some h =>
    cases h2 : mulO ⟨2, 1⟩ w with
    | none => rw [opnO_c2 h1 h2]; simp
    | some d => rw [opnO_c3 h1 h2, tolO_some, tolO_some]; simp
theorem opnT_some {u w r : Q} {p : Int} (hr : opnO u p w = some r) : opnT u p w = r := by
  unfold opnT
  cases h1 : divO u ⟨2 * p, 1⟩ with
  | none => rw [opnO_c1 h1] at hr; cases hr
  | some h =>
    cases h2 : mulO ⟨2, 1⟩ w with
    | none => rw [opnO_c2 h1 h2] at hr; cases hr
    | some d => rw [opnO_c3 h1 h2] at hr; rw [tolO_some, tolO_some, hr, tolO_some]
theorem opn_facts {p : Int} {bk : Bool} {u : Unit} (hv : okV (p, bk, u) = true) : IntKind.i64.wrap (2 * p) = 2 * p ∧ okQ ⟨2 * p, 1⟩ = true ∧ (2 * p ≠ 0) ∧ okQ ⟨2, 1⟩ = true := by
  have := within_iff.1 hv
  dsimp only at this
  exact ⟨wrap_in (by omega) (by omega), okQ_whole (within_iff.2 ⟨by omega, by omega⟩), by omega, by decide⟩
abbrev OpnIn (s : SlV) (u : Q) (v : Ver) (l : List Q) (E : Ext) : Prop := AllRow' s l E ∧ okQ u = true ∧ okV v = true
abbrev sopnSp : Sp := .hf2 sclL 35 VL 37 .nil (fun s v _ (l : List Q) E => OpnIn s.errs s.unit v l E) (fun s v _ l => RQ (outO (opnO s.unit v.1 (worQ Q1 l))))
set_option maxRecDepth 100000 in
theorem sopn_ok : Sp.ok Try.prog 111 sopnSp := by
  refine Sp.hf2_ok (T := [(68, wholeSp), (67, odivqSp), (74, sworSp), (91, omulqSp), (90, oaddqSp)]) follows eqok0 ⟨enters Try.func68 rfl rfl, whole_ok, enters Try.func67 rfl rfl, odivq_ok, enters Try.func74 rfl rfl, swor_ok, enters Try.func91 rfl rfl, omulq_ok, enters Try.func90 rfl rfl, oaddq_ok, trivial⟩ [(1, .take 0 (.take 1 (.take 2 (.take 3 (.take 4 (.take 5 (.take 6 (.take 7 (.take 8 (.alt 9 (.alt 10 (.take 11 (.take 12 (.take 13 (.alt 14 (.alt 15 (.take 16 (.done)) (.last)) (.last))))) (.alt 14 (.alt 10 (.take 11 (.take 12 (.take 13 (.alt 15 (.take 16 (.done)) (.last))))) (.last)) (.last))) (.alt 14 (.alt 9 (.alt 10 (.take 11 (.take 12 (.take 13 (.alt 15 (.take 16 (.done)) (.last))))) (.last)) (.last)) (.last))))))))))))] Try.func111 rfl (by kernel_rfl) _ _ _ _ _ _ _ fun s v x l E hp => ?_
  obtain ⟨⟨a, b⟩, ⟨sa, n, c⟩⟩ := s
  obtain ⟨p, bk, u'⟩ := v
  obtain ⟨hA, hu, hv⟩ := hp
  dsimp only at hA hu hv
  obtain ⟨w1, k1, k2, k3⟩ := opn_facts hv
  have hw : okQ (worQ Q1 l) = true := worQ_ok hA.2 (by decide)
  (repeat' ((conv => whnf); (first | with_reducible apply And.intro | (with_reducible intro hh; first | (with_reducible have hx := NewRow.self hh; clear hx) | (with_reducible have hrow := Made.row hh; have hle := Made.le hh; have hmade := hh; clear hh) | (with_reducible have hx := Ext.self hh; clear hx) | (with_reducible have hx := SlV.self hh; clear hx) | (with_reducible have hx := Value.self hh; clear hx) | with_reducible cases hh | skip) | (with_reducible apply AllEq.mk; intro yy hq) | with_reducible apply trivial | with_reducible apply Exists.intro () | (with_reducible apply ex_side; (first | with_reducible assumption | with_reducible apply fracs1 | with_reducible apply fracs2 | with_reducible apply fracs3 | with_reducible apply spans1 | with_reducible apply spans2 | (with_reducible apply NewRow.keep; with_reducible assumption) | (with_reducible apply RowAt.keep; with_reducible assumption) | assumption | (focus ((repeat (first | with_reducible assumption | (with_reducible apply RowAt.le; rotate_left; with_reducible assumption) | (with_reducible apply RowB.le; rotate_left; with_reducible assumption))); done)))) | (with_reducible apply ex_side (a := (_, _)); (focus (with_reducible apply And.intro <;> (focus ((repeat (first | with_reducible assumption | (with_reducible apply RowAt.le; rotate_left; with_reducible assumption) | (with_reducible apply RowB.le; rotate_left; with_reducible assumption))); done))))))); (all_goals (conv => whnf)))
  (all_goals (try dsimp only [Q.eta, Sn.eta, SlV.eta] at *)); (all_goals (first | exact Side.mk trivial | with_reducible exact Side.mk rfl | exact Side.mk (fun _ _ h => h) | exact Side.mk (Made.le (by assumption)) | refine Side.mk ?_ | refine Don.mk ?_ | skip))
  all_goals subst_vars
  all_goals try simp only [w1] at *
  all_goals try exact ⟨⟨hu, k1⟩, k2⟩
  all_goals try exact ⟨k3, hw⟩
  all_goals try (have h1 := (by assumption : ((outO (divO ⟨a, b⟩ ⟨2 * p, 1⟩)).2 != 0) = true); rw [opnO_c1 (outO_code h1), outO_code h1]; exact ⟨rfl, rfl, rfl⟩)
  all_goals have h1 := (by assumption : ((outO (divO ⟨a, b⟩ ⟨2 * p, 1⟩)).2 != 0) = false)
  all_goals try (have h2 := (by assumption : ((outO (mulO ⟨2, 1⟩ (worQ Q1 l))).2 != 0) = true); rw [opnO_c2 (outO_good h1) (outO_code h2), outO_code h2]; exact ⟨rfl, rfl, rfl⟩)
  all_goals have h2 := (by assumption : ((outO (mulO ⟨2, 1⟩ (worQ Q1 l))).2 != 0) = false)
  all_goals first | exact ⟨okQ_outD h1, okQ_outM h2⟩ | (rw [opnO_c3 (outO_good h1) (outO_good h2)]; exact ⟨rfl, rfl, rfl⟩)
abbrev tdouSp : Sp := .gf SC 103 CV' (fun _ x (l : List Q) E => OpnIn x.1.errs x.1.unit x.2.1 l E) (fun _ x l => (opnT x.1.unit x.2.1.1 (worQ Q1 l)).v) (fun s x l => (s.1 || opnB x.1.unit x.2.1.1 (worQ Q1 l), ()))
set_option maxRecDepth 100000 in
theorem tdou_ok : Sp.ok Try.prog 113 tdouSp := by
  refine Sp.gf_ok (T := [(73, wholeSp), (72, tdivqSp), (75, worSp), (95, tmulqSp), (94, taddqSp)]) follows eqok0 ⟨enters Try.func73 rfl rfl, num_ok, enters Try.func72 rfl rfl, tdivq_ok, enters Try.func75 rfl rfl, wor_ok, enters Try.func95 rfl rfl, tmulq_ok, enters Try.func94 rfl rfl, taddq_ok, trivial⟩ [(1, .take 0 (.take 1 (.take 2 (.take 3 (.take 4 (.take 5 (.take 6 (.take 9 (.take 11 (.alt 7 (.alt 8 (.alt 10 (.alt 12 (.alt 13 (.alt 14 (.alt 15 (.done) (.last)) (.last)) (.last)) (.last)) (.last)) (.last)) (.last)))))))))))] Try.func113 rfl (by kernel_rfl) _ _ _ _ _ _ fun s x l E hp => ?_
  obtain ⟨b0, u⟩ := s
  obtain ⟨⟨⟨a, b⟩, ⟨sa, n, c⟩⟩, ⟨p, bk, u'⟩, u⟩ := x
  obtain ⟨hA, hu, hv⟩ := hp
  dsimp only at hA hu hv
  obtain ⟨w1, k1, k2, k3⟩ := opn_facts hv
  have hw : okQ (worQ Q1 l) = true := worQ_ok hA.2 (by decide)
  (repeat' ((conv => whnf); (first | with_reducible apply And.intro | (with_reducible intro hh; first | (with_reducible have hx := NewRow.self hh; clear hx) | (with_reducible have hrow := Made.row hh; have hle := Made.le hh; have hmade := hh; clear hh) | (with_reducible have hx := Ext.self hh; clear hx) | (with_reducible have hx := SlV.self hh; clear hx) | (with_reducible have hx := Value.self hh; clear hx) | with_reducible cases hh | skip) | (with_reducible apply AllEq.mk; intro yy hq) | with_reducible apply trivial | with_reducible apply Exists.intro () | (with_reducible apply ex_side; (first | with_reducible assumption | with_reducible apply fracs1 | with_reducible apply fracs2 | with_reducible apply fracs3 | with_reducible apply spans1 | with_reducible apply spans2 | (with_reducible apply NewRow.keep; with_reducible assumption) | (with_reducible apply RowAt.keep; with_reducible assumption) | assumption | (focus ((repeat (first | with_reducible assumption | (with_reducible apply RowAt.le; rotate_left; with_reducible assumption) | (with_reducible apply RowB.le; rotate_left; with_reducible assumption))); done)))) | (with_reducible apply ex_side (a := (_, _)); (focus (with_reducible apply And.intro <;> (focus ((repeat (first | with_reducible assumption | (with_reducible apply RowAt.le; rotate_left; with_reducible assumption) | (with_reducible apply RowB.le; rotate_left; with_reducible assumption))); done))))))); (all_goals (conv => whnf)))
  (all_goals (try dsimp only [Q.eta, Sn.eta, SlV.eta] at *)); (all_goals (first | exact Side.mk trivial | with_reducible exact Side.mk rfl | exact Side.mk (fun _ _ h => h) | exact Side.mk (Made.le (by assumption)) | refine Side.mk ?_ | refine Don.mk ?_ | skip))
  all_goals subst_vars
  all_goals try simp only [w1] at *
  all_goals first | exact ⟨hu, k1⟩ | exact ⟨k3, hw⟩ | exact ⟨tolO_div _ _, tolO_mul _ _⟩ | skip
  all_goals (unfold opnT opnB; simp only [Bool.or_assoc]; exact ⟨rfl, rfl⟩)
abbrev SZ : Sn := ⟨⟨0, 0⟩, ⟨0, 0⟩⟩
def arO (a b : Q) : Sn × Int := match subO a b, addO a b with
  | some lo, some hi => (⟨lo, hi⟩, 0)
  | _, _ => (SZ, 3)
theorem aroS_eq (a b : Q) : bothO (opSub a b) (opAdd a b) = arO a b := by
  unfold bothO bothR arO subO addO
  rw [redQ_out, redC_out, redQ_out, redC_out]
  cases mkO (opSub a b) <;> cases mkO (opAdd a b) <;> rfl
def reaS (u : Q) (l : List Q) (v : Ver) (x : Q) : Sn × Int := match opnO u v.1 (worQ Q1 l) with
  | some d => arO x d
  | none => (SZ, 3)
theorem reaS_none {u : Q} {l : List Q} {v : Ver} {x : Q} (h : opnO u v.1 (worQ Q1 l) = none) : reaS u l v x = (SZ, 3) := by unfold reaS; rw [h]
theorem reaS_some {u d : Q} {l : List Q} {v : Ver} {x : Q} (h : opnO u v.1 (worQ Q1 l) = some d) : reaS u l v x = arO x d := by unfold reaS; rw [h]
theorem opnT_ok (u : Q) (p : Int) (w : Q) : okQ (opnT u p w) = true := tolO_add _ _
theorem opnO_ok {u w d : Q} {p : Int} (h : opnO u p w = some d) : okQ d = true := by rw [← opnT_some h]; exact opnT_ok u p w
def reaR (u : Q) (l : List Q) (v : Ver) (x : Q) : Sn × Int := grd SZ (askB u l v x) 1 (reaS u l v x)
abbrev reaASp : Sp := .rf LF (fun x (l : List Q) E => FracsAt x.1.errs l E) (fun x l => RS (reaR x.1.unit l x.2.1 x.2.2.1))
theorem one_rea {u x : Q} {l : List Q} {v : Ver} {b : Bool} (hb : b = ((false || opnB u v.1 (worQ Q1 l) || (subO x (opnT u v.1 (worQ Q1 l))).isNone) || (addO x (opnT u v.1 (worQ Q1 l))).isNone)) : RS ((if b = true then (⟨⟨0, 0⟩, ⟨0, 0⟩⟩ : Sn) else ⟨tolO (subO x (opnT u v.1 (worQ Q1 l))), tolO (addO x (opnT u v.1 (worQ Q1 l)))⟩), (if b = true then (3 : Int) else 0)) = RS (reaS u l v x) := by
  subst hb
  rw [opnB_none]
  cases h : opnO u v.1 (worQ Q1 l) with
  | none => rw [reaS_none h]; simp
  | some d =>
    rw [reaS_some h, opnT_some h]
    unfold arO
    cases h1 : subO x d with
    | none => simp
    | some lo =>
      cases h2 : addO x d with
      | none => simp
      | some hi => simp [tolO_some]
theorem zero_in {p : Int} {bk : Bool} {u : Unit} (hv : okV (p, bk, u) = true) : withinB 0 0 (p - 1) = true := by
  have := within_iff.1 hv
  dsimp only at this
  exact within_iff.2 ⟨by omega, by omega⟩
set_option maxRecDepth 100000 in
theorem reaA_ok : Sp.ok Try.prog 56 reaASp := by
  refine Sp.rf_ok (T := [(87, linCSp), (113, tdouSp), (99, tsubSp), (94, taddSp), (114, spanSp)]) follows eqok0 ⟨enters Try.func87 rfl rfl, linC_ok, enters Try.func113 rfl rfl, tdou_ok, enters Try.func99 rfl rfl, tsub_ok, enters Try.func94 rfl rfl, tadd_ok, enters Try.func114 rfl rfl, span_ok, trivial⟩ [(6, .take 0 (.take 1 (.take 2 (.take 3 (.take 5 (.take 6 (.take 7 (.alt 4 (.alt 8 (.take 9 (.alt 10 (.take 11 (.take 12 (.alt 13 (.take 14 (.done)) (.last)))) (.last))) (.last)) (.last)))))))))] Try.func56 rfl (by kernel_rfl) _ _ _ fun x l E hp => ?_
  obtain ⟨⟨⟨a, b⟩, ⟨sa, n, c⟩⟩, ⟨p, bk, u'⟩, ⟨x1, x2⟩, u⟩ := x
  dsimp only at hp
  by_cases hA : askB ⟨a, b⟩ l (p, bk, u') ⟨x1, x2⟩ = true
  · obtain ⟨h1, h2, h3⟩ := askB_iff.1 hA
    have hc := lineC_0 (j := 0) hA (zero_in h2)
    have hO : OpnIn ⟨sa, n, c⟩ ⟨a, b⟩ (p, bk, u') l E := ⟨⟨hp, okC_all h1⟩, okC_unit h1, h2⟩
    rw [reaR, grd_yes hA]
    (repeat' ((conv => whnf); (first | with_reducible apply And.intro | (with_reducible intro hh; first | (with_reducible have hx := NewRow.self hh; clear hx) | (with_reducible have hrow := Made.row hh; have hle := Made.le hh; have hmade := hh; clear hh) | (with_reducible have hx := Ext.self hh; clear hx) | (with_reducible have hx := SlV.self hh; clear hx) | (with_reducible have hx := Value.self hh; clear hx) | with_reducible cases hh | skip) | (with_reducible apply AllEq.mk; intro yy hq) | with_reducible apply trivial | with_reducible apply Exists.intro () | (with_reducible apply ex_side; (first | with_reducible assumption | with_reducible apply fracs1 | with_reducible apply fracs2 | with_reducible apply fracs3 | with_reducible apply spans1 | with_reducible apply spans2 | (with_reducible apply NewRow.keep; with_reducible assumption) | (with_reducible apply RowAt.keep; with_reducible assumption) | assumption | (focus ((repeat (first | with_reducible assumption | (with_reducible apply RowAt.le; rotate_left; with_reducible assumption) | (with_reducible apply RowB.le; rotate_left; with_reducible assumption))); done)))) | (with_reducible apply ex_side (a := (_, _)); (focus (with_reducible apply And.intro <;> (focus ((repeat (first | with_reducible assumption | (with_reducible apply RowAt.le; rotate_left; with_reducible assumption) | (with_reducible apply RowB.le; rotate_left; with_reducible assumption))); done))))))); (all_goals (conv => whnf)))
    (all_goals (try dsimp only [Q.eta, Sn.eta, SlV.eta] at *)); (all_goals (first | exact Side.mk trivial | with_reducible exact Side.mk rfl | exact Side.mk (fun _ _ h => h) | exact Side.mk (Made.le (by assumption)) | refine Side.mk ?_ | refine Don.mk ?_ | skip))
    all_goals try simp only [hc] at *
    all_goals first | exact ⟨h3, opnT_ok _ _ _⟩ | (exfalso; exact absurd (by assumption : ((0 : Int) != 0) = true) (by decide)) | exact congrArg AV.v (one_rea (u := ⟨a, b⟩) (l := l) (v := (p, bk, u')) (x := ⟨x1, x2⟩) rfl)
  · have hA' : askB ⟨a, b⟩ l (p, bk, u') ⟨x1, x2⟩ = false := by simpa using hA
    have hc := lineC_1 (j := 0) hA'
    rw [reaR, grd_no hA']
    (repeat' ((conv => whnf); (first | with_reducible apply And.intro | (with_reducible intro hh; first | (with_reducible have hx := NewRow.self hh; clear hx) | (with_reducible have hrow := Made.row hh; have hle := Made.le hh; have hmade := hh; clear hh) | (with_reducible have hx := Ext.self hh; clear hx) | (with_reducible have hx := SlV.self hh; clear hx) | (with_reducible have hx := Value.self hh; clear hx) | with_reducible cases hh | skip) | (with_reducible apply AllEq.mk; intro yy hq) | with_reducible apply trivial | with_reducible apply Exists.intro () | (with_reducible apply ex_side; (first | with_reducible assumption | with_reducible apply fracs1 | with_reducible apply fracs2 | with_reducible apply fracs3 | with_reducible apply spans1 | with_reducible apply spans2 | (with_reducible apply NewRow.keep; with_reducible assumption) | (with_reducible apply RowAt.keep; with_reducible assumption) | assumption | (focus ((repeat (first | with_reducible assumption | (with_reducible apply RowAt.le; rotate_left; with_reducible assumption) | (with_reducible apply RowB.le; rotate_left; with_reducible assumption))); done)))) | (with_reducible apply ex_side (a := (_, _)); (focus (with_reducible apply And.intro <;> (focus ((repeat (first | with_reducible assumption | (with_reducible apply RowAt.le; rotate_left; with_reducible assumption) | (with_reducible apply RowB.le; rotate_left; with_reducible assumption))); done))))))); (all_goals (conv => whnf)))
    (all_goals (try dsimp only [Q.eta, Sn.eta, SlV.eta] at *)); (all_goals (first | exact Side.mk trivial | with_reducible exact Side.mk rfl | exact Side.mk (fun _ _ h => h) | exact Side.mk (Made.le (by assumption)) | refine Side.mk ?_ | refine Don.mk ?_ | skip))
    all_goals try simp only [hc] at *
    all_goals first | rfl | (exfalso; exact absurd (by assumption : ((1 : Int) != 0) = false) (by decide))
set_option maxRecDepth 100000 in
theorem sreaA_ok : Sp.ok Try.prog 55 reaASp := by
  refine Sp.rf_ok (T := [(84, askSp), (111, sopnSp), (112, aroundSp)]) follows eqok0 ⟨enters Try.func84 rfl rfl, ask_ok, enters Try.func111 rfl rfl, sopn_ok, enters Try.func112 rfl rfl, around_ok, trivial⟩ [] Try.func55 rfl (by kernel_rfl) _ _ _ fun x l E hp => ?_
  obtain ⟨⟨⟨a, b⟩, ⟨sa, n, c⟩⟩, ⟨p, bk, u'⟩, ⟨x1, x2⟩, u⟩ := x
  dsimp only at hp
  by_cases hA : askB ⟨a, b⟩ l (p, bk, u') ⟨x1, x2⟩ = true
  · obtain ⟨h1, h2, h3⟩ := askB_iff.1 hA
    have hc : (if askB ⟨a, b⟩ l (p, bk, u') ⟨x1, x2⟩ then (0 : Int) else 1) = 0 := if_pos hA
    have hO : OpnIn ⟨sa, n, c⟩ ⟨a, b⟩ (p, bk, u') l E := ⟨⟨hp, okC_all h1⟩, okC_unit h1, h2⟩
    rw [reaR, grd_yes hA]
    cases hd : opnO ⟨a, b⟩ p (worQ Q1 l) with
    | none =>
      rw [reaS_none hd]
      (repeat' ((conv => whnf); (first | with_reducible apply And.intro | (with_reducible intro hh; first | (with_reducible have hx := NewRow.self hh; clear hx) | (with_reducible have hrow := Made.row hh; have hle := Made.le hh; have hmade := hh; clear hh) | (with_reducible have hx := Ext.self hh; clear hx) | (with_reducible have hx := SlV.self hh; clear hx) | (with_reducible have hx := Value.self hh; clear hx) | with_reducible cases hh | skip) | (with_reducible apply AllEq.mk; intro yy hq) | with_reducible apply trivial | with_reducible apply Exists.intro () | (with_reducible apply ex_side; (first | with_reducible assumption | with_reducible apply fracs1 | with_reducible apply fracs2 | with_reducible apply fracs3 | with_reducible apply spans1 | with_reducible apply spans2 | (with_reducible apply NewRow.keep; with_reducible assumption) | (with_reducible apply RowAt.keep; with_reducible assumption) | assumption | (focus ((repeat (first | with_reducible assumption | (with_reducible apply RowAt.le; rotate_left; with_reducible assumption) | (with_reducible apply RowB.le; rotate_left; with_reducible assumption))); done)))) | (with_reducible apply ex_side (a := (_, _)); (focus (with_reducible apply And.intro <;> (focus ((repeat (first | with_reducible assumption | (with_reducible apply RowAt.le; rotate_left; with_reducible assumption) | (with_reducible apply RowB.le; rotate_left; with_reducible assumption))); done))))))); (all_goals (conv => whnf)))
      (all_goals (try dsimp only [Q.eta, Sn.eta, SlV.eta] at *)); (all_goals (first | exact Side.mk trivial | with_reducible exact Side.mk rfl | exact Side.mk (fun _ _ h => h) | exact Side.mk (Made.le (by assumption)) | refine Side.mk ?_ | refine Don.mk ?_ | skip))
      all_goals try simp only [hc, hd, outO_none] at *
      all_goals first | rfl | (exfalso; exact absurd (by assumption : ((0 : Int) != 0) = true) (by decide)) | (exfalso; exact absurd (by assumption : ((3 : Int) != 0) = false) (by decide))
    | some d =>
      rw [reaS_some hd, ← aroS_eq]
      have hdk := opnO_ok hd
      (repeat' ((conv => whnf); (first | with_reducible apply And.intro | (with_reducible intro hh; first | (with_reducible have hx := NewRow.self hh; clear hx) | (with_reducible have hrow := Made.row hh; have hle := Made.le hh; have hmade := hh; clear hh) | (with_reducible have hx := Ext.self hh; clear hx) | (with_reducible have hx := SlV.self hh; clear hx) | (with_reducible have hx := Value.self hh; clear hx) | with_reducible cases hh | skip) | (with_reducible apply AllEq.mk; intro yy hq) | with_reducible apply trivial | with_reducible apply Exists.intro () | (with_reducible apply ex_side; (first | with_reducible assumption | with_reducible apply fracs1 | with_reducible apply fracs2 | with_reducible apply fracs3 | with_reducible apply spans1 | with_reducible apply spans2 | (with_reducible apply NewRow.keep; with_reducible assumption) | (with_reducible apply RowAt.keep; with_reducible assumption) | assumption | (focus ((repeat (first | with_reducible assumption | (with_reducible apply RowAt.le; rotate_left; with_reducible assumption) | (with_reducible apply RowB.le; rotate_left; with_reducible assumption))); done)))) | (with_reducible apply ex_side (a := (_, _)); (focus (with_reducible apply And.intro <;> (focus ((repeat (first | with_reducible assumption | (with_reducible apply RowAt.le; rotate_left; with_reducible assumption) | (with_reducible apply RowB.le; rotate_left; with_reducible assumption))); done))))))); (all_goals (conv => whnf)))
      (all_goals (try dsimp only [Q.eta, Sn.eta, SlV.eta] at *)); (all_goals (first | exact Side.mk trivial | with_reducible exact Side.mk rfl | exact Side.mk (fun _ _ h => h) | exact Side.mk (Made.le (by assumption)) | refine Side.mk ?_ | refine Don.mk ?_ | skip))
      all_goals try simp only [hc, hd, outO_some] at *
      all_goals first | exact ⟨h3, hdk⟩ | (exfalso; exact absurd (by assumption : ((0 : Int) != 0) = true) (by decide)) | rfl
  · have hA' : askB ⟨a, b⟩ l (p, bk, u') ⟨x1, x2⟩ = false := by simpa using hA
    have hc : (if askB ⟨a, b⟩ l (p, bk, u') ⟨x1, x2⟩ then (0 : Int) else 1) = 1 := if_neg hA
    rw [reaR, grd_no hA']
    (repeat' ((conv => whnf); (first | with_reducible apply And.intro | (with_reducible intro hh; first | (with_reducible have hx := NewRow.self hh; clear hx) | (with_reducible have hrow := Made.row hh; have hle := Made.le hh; have hmade := hh; clear hh) | (with_reducible have hx := Ext.self hh; clear hx) | (with_reducible have hx := SlV.self hh; clear hx) | (with_reducible have hx := Value.self hh; clear hx) | with_reducible cases hh | skip) | (with_reducible apply AllEq.mk; intro yy hq) | with_reducible apply trivial | with_reducible apply Exists.intro () | (with_reducible apply ex_side; (first | with_reducible assumption | with_reducible apply fracs1 | with_reducible apply fracs2 | with_reducible apply fracs3 | with_reducible apply spans1 | with_reducible apply spans2 | (with_reducible apply NewRow.keep; with_reducible assumption) | (with_reducible apply RowAt.keep; with_reducible assumption) | assumption | (focus ((repeat (first | with_reducible assumption | (with_reducible apply RowAt.le; rotate_left; with_reducible assumption) | (with_reducible apply RowB.le; rotate_left; with_reducible assumption))); done)))) | (with_reducible apply ex_side (a := (_, _)); (focus (with_reducible apply And.intro <;> (focus ((repeat (first | with_reducible assumption | (with_reducible apply RowAt.le; rotate_left; with_reducible assumption) | (with_reducible apply RowB.le; rotate_left; with_reducible assumption))); done))))))); (all_goals (conv => whnf)))
    (all_goals (try dsimp only [Q.eta, Sn.eta, SlV.eta] at *)); (all_goals (first | exact Side.mk trivial | with_reducible exact Side.mk rfl | exact Side.mk (fun _ _ h => h) | exact Side.mk (Made.le (by assumption)) | refine Side.mk ?_ | refine Don.mk ?_ | skip))
    all_goals try simp only [hc] at *
    all_goals first | rfl | (exfalso; exact absurd (by assumption : ((1 : Int) != 0) = false) (by decide))

end Go.Proofs.Ytbgjokadfkblmab
