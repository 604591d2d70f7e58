/- Contracts of both packages' functions that seek the line that fits, for all scales that lie in memory; no other condition. -/
import Derived.Test.YtlfhjmnaommckaaAb
import Derived.Test.YtlfhjmnaommckaaC1
import Derived.Test.YtlfhjmnaommckaaC2
import Derived.Test.YtlfhjmnaommckaaC3
import Derived.Test.YtlfhjmnaommckaaC4
import Derived.Test.YtlfhjmnaommckaaC5
import Derived.Test.YtlfhjmnaommckaaC6
import Derived.Test.YtlfhjmnaommckaaC7
import Derived.Test.YtlfhjmnaommckaaC8
import Derived.Test.YtlfhjmnaommckaaC9
import Derived.Test.YtlfhjmnaommckaaCO
import Derived.Test.YtlfhjmnaommckaaC12
import Derived.Test.YtlfhjmnaommckaaC13
import Derived.Test.YtlfhjmnaommckaaC14
import Derived.Test.YtlfhjmnaommckaaC15
import Derived.Test.YtlfhjmnaommckaaC16
import Derived.Test.YtlfhjmnaommckaaC17
import Derived.Test.YtlfhjmnaommckaaC18
import Derived.Test.YtlfhjmnaommckaaC19
import Derived.Test.YtlfhjmnaommckaaC20
import Derived.Test.YtlfhjmnaommckaaC21
import Derived.Test.YtlfhjmnaommckaaCL
import Derived.Test.YtlfhjmnaommckaaProg
set_option linter.unusedVariables false
set_option linter.unusedSimpArgs false
namespace Go.Proofs.Ytlfhjmnaommckaa
open Ab

def fitO (u : Q) (l : List Q) (v : Ver) (x : Q) : Nat → Nat → IQ → Option IQ
  | 0, _, b => some b
  | m + 1, j, b => (misO u l v x (j : Int)).bind fun w => fitO u l v x m (j + 1) (if j = 0 ∨ cmpQ w b.2 < 0 then ((j : Int), w) else b)
def fitT (u : Q) (l : List Q) (v : Ver) (x : Q) : Nat → Nat → IQ → Bool → IQ × Bool
  | 0, _, b, f => (b, f)
  | m + 1, j, b, f => fitT u l v x m (j + 1) (if j = 0 ∨ cmpQ (misT u l v x (j : Int)) b.2 < 0 then ((j : Int), misT u l v x (j : Int)) else b) (f || misB u l v x (j : Int))
theorem fitT_bad (u : Q) (l : List Q) (v : Ver) (x : Q) : ∀ (m j : Nat) (b : IQ), (fitT u l v x m j b true).2 = true
  | 0, _, _ => rfl
  | m + 1, j, b => by rw [fitT, Bool.true_or]; exact fitT_bad u l v x m _ _
theorem fitT_fitO {u : Q} {l : List Q} (v : Ver) (x : Q) (hC : okC u l = true) : ∀ (m j : Nat) (b : IQ) (f : Bool), (fitT u l v x m j b f).2 = (f || (fitO u l v x m j b).isNone) ∧ ∀ c, fitO u l v x m j b = some c → (fitT u l v x m j b f).1 = c
  | 0, j, b, f => ⟨by simp [fitT, fitO], fun c h => by simpa [fitT, fitO] using h⟩
  | m + 1, j, b, f => by
    rw [fitT, fitO, misB_none hC]
    cases h : misO u l v x (j : Int) with
    | none =>
      refine ⟨?_, fun c hc => by cases hc⟩
      rw [Option.isNone_none, Bool.or_true, fitT_bad]
      simp
    | some d =>
      rw [misT_some hC h, Option.isNone_some, Bool.or_false, Option.bind_some]
      exact fitT_fitO v x hC m _ _ f
theorem fitO_start {u : Q} {l : List Q} {v : Ver} {x : Q} {m : Nat} (b c : IQ) (h : m ≠ 0) : fitO u l v x m 0 b = fitO u l v x m 0 c := by
  cases m with
  | zero => exact absurd rfl h
  | succ m => simp [fitO]
theorem neaT_okQ (u x : Q) : ∀ (l : List Q) (k : Nat) (b : IQ) (f : Bool), okQ b.2 = true → okQ (neaT u x k b f l).1.2 = true
  | [], _, _, _, h => h
  | e :: r, k, b, f, h => by
    rw [neaT]
    refine neaT_okQ u x r _ _ _ ?_
    split
    · exact okQ_size (tolO_sub _ _)
    · exact h
theorem misT_ok (u : Q) (l : List Q) (v : Ver) (x : Q) (j : Int) : okQ (misT u l v x j) = true := neaT_okQ _ _ _ _ _ _ (by decide)
def firstQ (u : Q) (l : List Q) : Q := markT u 0 (l.getD 0 Q0)
def lastQ (u : Q) (l : List Q) : Q := markT u (l.length - 1) (l.getD (l.length - 1) Q0)
def fitR (u : Q) (l : List Q) (v : Ver) (x : Q) : Int × Int := if cmpQ x (firstQ u l) < 0 then (0, 2) else match lineO u x v (v.1 - 1) with
  | none => (0, 3)
  | some t => if cmpQ t (lastQ u l) > 0 then (0, 2) else match fitO u l v x v.1.toNat 0 (0, Q0) with
    | none => (0, 3)
    | some c => (c.1, 0)
theorem fitR_1 {u : Q} {l : List Q} {v : Ver} {x : Q} (h : cmpQ x (firstQ u l) < 0) : fitR u l v x = (0, 2) := by unfold fitR; rw [if_pos h]
theorem fitR_2 {u : Q} {l : List Q} {v : Ver} {x : Q} (h : ¬ cmpQ x (firstQ u l) < 0) (h2 : lineO u x v (v.1 - 1) = none) : fitR u l v x = (0, 3) := by unfold fitR; rw [if_neg h, h2]
theorem fitR_3 {u : Q} {l : List Q} {v : Ver} {x t : Q} (h : ¬ cmpQ x (firstQ u l) < 0) (h2 : lineO u x v (v.1 - 1) = some t) (h3 : cmpQ t (lastQ u l) > 0) : fitR u l v x = (0, 2) := by unfold fitR; rw [if_neg h, h2]; exact if_pos h3
theorem fitR_4 {u : Q} {l : List Q} {v : Ver} {x t : Q} (h : ¬ cmpQ x (firstQ u l) < 0) (h2 : lineO u x v (v.1 - 1) = some t) (h3 : ¬ cmpQ t (lastQ u l) > 0) : fitR u l v x = match fitO u l v x v.1.toNat 0 (0, Q0) with
    | none => (0, 3)
    | some c => (c.1, 0) := by unfold fitR; rw [if_neg h, h2]; exact if_neg h3
theorem ends_of {s : SlV} {u : Q} {l : List Q} {E : Ext} (hp : FracsAt s l E) (hC : okC u l = true) : (MarkIn s u 0 l E ∧ markO u (0 : Int).toNat (l.getD (0 : Int).toNat Q0) = some (firstQ u l) ∧ okQ (firstQ u l) = true) ∧ MarkIn s u ((l.length : Int) - 1) l E ∧ markO u ((l.length : Int) - 1).toNat (l.getD ((l.length : Int) - 1).toNat Q0) = some (lastQ u l) ∧ okQ (lastQ u l) = true := by
  have h2 := (okC_iff hC).2.2.1
  obtain ⟨a1, m, a2, a3⟩ := markIn_of (k := 0) hp hC (by omega) (by omega)
  obtain ⟨b1, m', b2, b3⟩ := markIn_of (k := (l.length : Int) - 1) hp hC (by omega) (by omega)
  have e1 : firstQ u l = m := markT_some a2
  have e3 : ((l.length : Int) - 1).toNat = l.length - 1 := by omega
  have e2 : lastQ u l = m' := by
    have := markT_some b2
    rw [e3] at this
    exact this
  rw [e1, e2]
  exact ⟨⟨a1, a2, a3⟩, b1, b2, b3⟩
theorem okQ_outL {u x : Q} {v : Ver} {j : Int} (h : ((outO (lineO u x v j)).2 != 0) = false) : okQ (outO (lineO u x v j)).1 = true := lineO_ok (outO_good h)
theorem fit_lines {p j : Int} {bk : Bool} {u' : Unit} {u x : Q} (h : okQ u = true ∧ okV (p, bk, u') = true ∧ okQ x = true) (h0 : 0 ≤ j) (h1 : j < p) : LineIn u x (p, bk, u') j := ⟨h.1, h.2.1, h.2.2, within_iff.2 ⟨h0, by dsimp only; omega⟩⟩
abbrev FitIn (s : SlV) (u x : Q) (v : Ver) (l : List Q) (E : Ext) : Prop := FracsAt s l E ∧ okC u l = true ∧ okV v = true ∧ okQ x = true
abbrev smkSp : Sp := .hf sclL 70 I1 (fun s x (l : List Q) E => MarkIn s.errs s.unit x.1 l E) (fun s x l => RQ (outO (markO s.unit x.1.toNat (l.getD x.1.toNat Q0))))
theorem smk_ok : Sp.ok Try.prog 174 smkSp := smark_ok
abbrev sfitSp : Sp := .hf2 sclL 70 VL 109 F1 (fun s v x (l : List Q) E => FitIn s.errs s.unit x.1 v l E) (fun s v x l => RI (fitR s.unit l v x.1))

set_option maxHeartbeats 2000000 in
set_option maxRecDepth 100000 in
theorem sfit_ok : Sp.ok Try.prog 144 sfitSp := by
  refine Sp.hf2_ok (T := ⟨[(174, smkSp), (105, cmpSp), (178, slineSp), (179, smisSp)], []⟩) follows eqok0 ⟨enters Try.func174 rfl rfl, smk_ok, enters Try.func105 rfl rfl, spcmp_ok, enters Try.func178 rfl rfl, sline_ok, enters Try.func179 rfl rfl, smis_ok, trivial⟩ [(5, .take 0 (.take 1 (.take 2 (.take 3 (.take 4 (.take 5 (.take 6 (.take 7 (.alt 8 (.take 9 (.take 10 (.take 11 (.alt 12 (.alt 13 (.take 14 (.done)) (.last)) (.last))))) (.alt 12 (.alt 8 (.take 9 (.take 10 (.take 11 (.alt 13 (.take 14 (.done)) (.last))))) (.last)) (.last)))))))))))] Try.func144 rfl (by kernel_rfl) _ _ _ _ _ _ _ fun s v x l E hp => ?_
  obtain ⟨⟨a, b⟩, ⟨sa, n, c⟩⟩ := s
  obtain ⟨p, bk, u'⟩ := v
  obtain ⟨⟨x1, x2⟩, u⟩ := x
  obtain ⟨hp0, hC, hv, hx⟩ := hp
  dsimp only at hp0 hC hv hx
  have hn := hp0.1
  dsimp only at hn
  have h60 := okC_iff hC
  obtain ⟨w1, w2⟩ := line_wrap hv
  have hpb := within_iff.1 hv
  dsimp only at hpb
  have hall : okQ ⟨a, b⟩ = true ∧ okV (p, bk, u') = true ∧ okQ ⟨x1, x2⟩ = true := ⟨okC_unit hC, hv, hx⟩
  have hwn : IntKind.i64.wrap ((n : Int) - 1) = (l.length : Int) - 1 := by rw [wrap_in (by omega) (by omega), hn]
  obtain ⟨⟨hM0, e0, k0⟩, hM1, e1, k1⟩ := ends_of hp0 hC
  rw [← hwn] at hM1 e1
  have hL := fit_lines (j := p - 1) hall (by omega) (by omega)
  rw [← w1] at hL
  have f0 : (outO (markO ⟨a, b⟩ (0 : Int).toNat (l.getD (0 : Int).toNat Q0))).1 = firstQ ⟨a, b⟩ l := by rw [e0]; rfl
  have f1 : (outO (markO ⟨a, b⟩ (IntKind.i64.wrap ((n : Int) - 1)).toNat (l.getD (IntKind.i64.wrap ((n : Int) - 1)).toNat Q0))).1 = lastQ ⟨a, b⟩ l := by rw [e1]; rfl
  have g0 : okQ (outO (markO ⟨a, b⟩ (0 : Int).toNat (l.getD (0 : Int).toNat Q0))).1 = true := by rw [f0]; exact k0
  have g1 : okQ (outO (markO ⟨a, b⟩ (IntKind.i64.wrap ((n : Int) - 1)).toNat (l.getD (IntKind.i64.wrap ((n : Int) - 1)).toNat Q0))).1 = true := by rw [f1]; exact k1
  clear e0 e1
  (repeat' ((conv => whnf); (first | with_reducible apply And.intro | (with_reducible intro hh; first | (with_reducible have hx := NewRow.self hh; clear hx) | (with_reducible have hrow := Made.row hh; have hle := Made.le hh; have hmade := hh; clear hh) | (with_reducible have hx := Ext.self hh; clear hx) | (with_reducible have hx := SlV.self hh; clear hx) | (with_reducible have hx := Value.self hh; clear hx) | with_reducible cases hh | skip) | (with_reducible apply AllEq.mk; intro yy hq) | with_reducible apply trivial | with_reducible apply Exists.intro () | (with_reducible apply ex_side; (first | with_reducible assumption | with_reducible apply fracs1 | with_reducible apply fracs2 | with_reducible apply fracs3 | with_reducible apply spans1 | with_reducible apply spans2 | (with_reducible apply NewRow.keep; with_reducible assumption) | (with_reducible apply RowAt.keep; with_reducible assumption) | assumption | (focus ((repeat (first | with_reducible assumption | (with_reducible apply RowAt.le; rotate_left; with_reducible assumption) | (with_reducible apply RowB.le; rotate_left; with_reducible assumption))); done)))) | (with_reducible apply ex_side (a := (_, _)); (focus (with_reducible apply And.intro <;> (focus ((repeat (first | with_reducible assumption | (with_reducible apply RowAt.le; rotate_left; with_reducible assumption) | (with_reducible apply RowB.le; rotate_left; with_reducible assumption))); done))))))); (all_goals (conv => whnf)))
  (all_goals (try dsimp only [Q.eta, Sn.eta, SlV.eta] at *)); (all_goals (first | exact Side.mk trivial | with_reducible exact Side.mk rfl | exact Side.mk (fun _ _ h => h) | exact Side.mk (Made.le (by assumption)) | refine Side.mk ?_ | refine Don.mk ?_ | skip))
  all_goals first
    | exact ⟨hx, g0⟩
    | exact hL
    | (have h := of_decide_eq_true hh; rw [f0] at h; rw [fitR_1 h]; exact ⟨rfl, rfl, rfl⟩)
    | exact ⟨okQ_outL hh, g1⟩
    | (have h := of_decide_eq_false (by assumption : decide (cmpQ ⟨x1, x2⟩ (outO (markO ⟨a, b⟩ (0 : Int).toNat (l.getD (0 : Int).toNat Q0))).1 < 0) = false); rw [f0] at h; have h2 := outO_code hh; have h3 := h2; rw [w1] at h3; rw [fitR_2 h h3, h2]; exact ⟨rfl, rfl, rfl⟩)
    | (have h := of_decide_eq_false (by assumption : decide (cmpQ ⟨x1, x2⟩ (outO (markO ⟨a, b⟩ (0 : Int).toNat (l.getD (0 : Int).toNat Q0))).1 < 0) = false); rw [f0] at h; have h2 := outO_good (by assumption : ((outO (lineO ⟨a, b⟩ ⟨x1, x2⟩ (p, bk, ()) (IntKind.i64.wrap (p - 1)))).2 != 0) = false); have h3 := of_decide_eq_true hh; rw [f1] at h3; rw [w1] at h2 h3; rw [fitR_3 h h2 h3]; exact ⟨rfl, rfl, rfl⟩)
    | skip
  all_goals have h := of_decide_eq_false (by assumption : decide (cmpQ ⟨x1, x2⟩ (outO (markO ⟨a, b⟩ (0 : Int).toNat (l.getD (0 : Int).toNat Q0))).1 < 0) = false)
  all_goals rw [f0] at h
  all_goals have h2 := outO_good (by assumption : ((outO (lineO ⟨a, b⟩ ⟨x1, x2⟩ (p, bk, ()) (IntKind.i64.wrap (p - 1)))).2 != 0) = false)
  all_goals have h3 := of_decide_eq_false hh
  all_goals rw [f1] at h3
  all_goals rw [w1] at h2 h3
  all_goals have hR := fitR_4 h h2 h3
  all_goals clear h h2 h3 f0 f1 g0 g1 hh
  all_goals (
    refine ⟨fun m s => ∃ (k : Nat) (i : Int) (w q1 q2 q3 : Q) (g17 g18 g59 g60 g61 g62 g63 g64 g65 g66 g67 g68 g69 g70 g71 g72 g73 g74 g75 g76 g78 g79 g80 g81 g82 g83 g84 g85 : AV) (w2 w3 w4 w6 w7 w9 w11 w13 w19 w21 w22 w23 w24 w29 w30 w31 w32 w33 w34 w35 w36 w37 w38 w39 w42 w46 w47 w48 w49 w50 w51 w52 w53 w54 w55 w56 w57 w58 w77 w86 w87 w88 : Value), k + m = p.toNat ∧ (k = 0 ∨ okQ w = true) ∧ fitO ⟨a, b⟩ l (p, bk, ()) ⟨x1, x2⟩ p.toNat 0 (0, Q0) = fitO ⟨a, b⟩ l (p, bk, ()) ⟨x1, x2⟩ m k (i, w) ∧ s = ⟨[.p 0 0, .p 1 0, .v w2, .v w3, .v w4, .p 2 0, .v w6, .v w7, .p 3 0, .v w9, .p 4 0, .v w11, .p 5 0, .v w13, .v (.int .i64 i), .p 6 0, .v (.int .i64 k), g17, g18, .v w19, .p 0 0, .v w21, .v w22, .v w23, .v w24, .p 0 0, .p 0 0, .p 0 0, .p 0 2, .v w29, .v w30, .v w31, .v w32, .v w33, .v w34, .v w35, .v w36, .v w37, .v w38, .v w39, .p 0 0, .p 1 0, .v w42, .p 1 0, .p 1 0, .p 1 0, .v w46, .v w47, .v w48, .v w49, .v w50, .v w51, .v w52, .v w53, .v w54, .v w55, .v w56, .v w57, .v w58, g59, g60, g61, g62, g63, g64, g65, g66, g67, g68, g69, g70, g71, g72, g73, g74, g75, g76, .v w77, g78, g79, g80, g81, g82, g83, g84, g85, .v w86, .v w87, .v w88], [([.int .i64 a, .int .i64 b, .slice sa n c], 70), ([.int .i64 p, .bool bk], 109), ([.int .i64 x1, .int .i64 x2], 25), ([.int .i64 q1.p, .int .i64 q1.q], 25), ([.int .i64 q2.p, .int .i64 q2.q], 25), ([.int .i64 q3.p, .int .i64 q3.q], 25), ([.int .i64 w.p, .int .i64 w.q], 25)], E⟩, ⟨_, 0, 0, Q0, _, _, _, _, _, _, _, _, _, _, _, _, _, _, _, _, _, _, _, _, _, _, _, _, _, _, _, _, _, _, _, _, _, _, _, _, _, _, _, _, _, _, _, _, _, _, _, _, _, _, _, _, _, _, _, _, _, _, _, _, _, _, _, _, _, _, _, _, _, _, _, _, _, Nat.zero_add _, .inl rfl, rfl, rfl⟩, ?_⟩
    rintro m s ⟨k, i, w, q1, q2, q3, g17, g18, g59, g60, g61, g62, g63, g64, g65, g66, g67, g68, g69, g70, g71, g72, g73, g74, g75, g76, g78, g79, g80, g81, g82, g83, g84, g85, w2, w3, w4, w6, w7, w9, w11, w13, w19, w21, w22, w23, w24, w29, w30, w31, w32, w33, w34, w35, w36, w37, w38, w39, w42, w46, w47, w48, w49, w50, w51, w52, w53, w54, w55, w56, w57, w58, w77, w86, w87, w88, hm, hw, hs, rfl⟩
    have hR' : fitR ⟨a, b⟩ l (p, bk, ()) ⟨x1, x2⟩ = match fitO ⟨a, b⟩ l (p, bk, ()) ⟨x1, x2⟩ p.toNat 0 (0, Q0) with
      | none => (0, 3)
      | some c => (c.1, 0) := hR
    clear hR
    rcases m with _ | m
    · rw [fitO] at hs
      rw [hs] at hR'
      (repeat' ((conv => whnf); (first | with_reducible apply And.intro | (with_reducible intro hh; first | (with_reducible have hx := NewRow.self hh; clear hx) | (with_reducible have hrow := Made.row hh; have hle := Made.le hh; have hmade := hh; clear hh) | (with_reducible have hx := Ext.self hh; clear hx) | (with_reducible have hx := SlV.self hh; clear hx) | (with_reducible have hx := Value.self hh; clear hx) | with_reducible cases hh | skip) | (with_reducible apply AllEq.mk; intro yy hq) | with_reducible apply trivial | with_reducible apply Exists.intro () | (with_reducible apply ex_side; (first | with_reducible assumption | with_reducible apply fracs1 | with_reducible apply fracs2 | with_reducible apply fracs3 | with_reducible apply spans1 | with_reducible apply spans2 | (with_reducible apply NewRow.keep; with_reducible assumption) | (with_reducible apply RowAt.keep; with_reducible assumption) | assumption | (focus ((repeat (first | with_reducible assumption | (with_reducible apply RowAt.le; rotate_left; with_reducible assumption) | (with_reducible apply RowB.le; rotate_left; with_reducible assumption))); done)))) | (with_reducible apply ex_side (a := (_, _)); (focus (with_reducible apply And.intro <;> (focus ((repeat (first | with_reducible assumption | (with_reducible apply RowAt.le; rotate_left; with_reducible assumption) | (with_reducible apply RowB.le; rotate_left; with_reducible assumption))); done))))))); (all_goals (conv => whnf)))
      (all_goals (try dsimp only [Q.eta, Sn.eta, SlV.eta] at *)); (all_goals (first | exact Side.mk trivial | with_reducible exact Side.mk rfl | exact Side.mk (fun _ _ h => h) | exact Side.mk (Made.le (by assumption)) | refine Side.mk ?_ | refine Don.mk ?_ | skip))
      all_goals try (exfalso; have := of_decide_eq_true (by assumption : decide ((k : Int) < p) = true); omega)
      all_goals (rw [hR']; exact ⟨rfl, rfl, rfl⟩)
    · rw [fitO] at hs
      have hlt : (k : Int) < p := by omega
      have hLk := fit_lines (j := (k : Int)) hall (by omega) hlt
      have hM : MisIn ⟨sa, n, c⟩ ⟨a, b⟩ ⟨x1, x2⟩ (p, bk, ()) (k : Int) l E := ⟨hp0, hC, hLk⟩
      have hw1 : IntKind.i64.wrap ((k : Int) + 1) = ((k + 1 : Nat) : Int) := by rw [wrap_in (by omega) (by omega)]; rfl
      cases hd : misO ⟨a, b⟩ l (p, bk, ()) ⟨x1, x2⟩ (k : Int) with
      | none =>
        rw [hd, Option.bind_none] at hs
        rw [hs] at hR'
        (repeat' ((conv => whnf); (first | with_reducible apply And.intro | (with_reducible intro hh; first | (with_reducible have hx := NewRow.self hh; clear hx) | (with_reducible have hrow := Made.row hh; have hle := Made.le hh; have hmade := hh; clear hh) | (with_reducible have hx := Ext.self hh; clear hx) | (with_reducible have hx := SlV.self hh; clear hx) | (with_reducible have hx := Value.self hh; clear hx) | with_reducible cases hh | skip) | (with_reducible apply AllEq.mk; intro yy hq) | with_reducible apply trivial | with_reducible apply Exists.intro () | (with_reducible apply ex_side; (first | with_reducible assumption | with_reducible apply fracs1 | with_reducible apply fracs2 | with_reducible apply fracs3 | with_reducible apply spans1 | with_reducible apply spans2 | (with_reducible apply NewRow.keep; with_reducible assumption) | (with_reducible apply RowAt.keep; with_reducible assumption) | assumption | (focus ((repeat (first | with_reducible assumption | (with_reducible apply RowAt.le; rotate_left; with_reducible assumption) | (with_reducible apply RowB.le; rotate_left; with_reducible assumption))); done)))) | (with_reducible apply ex_side (a := (_, _)); (focus (with_reducible apply And.intro <;> (focus ((repeat (first | with_reducible assumption | (with_reducible apply RowAt.le; rotate_left; with_reducible assumption) | (with_reducible apply RowB.le; rotate_left; with_reducible assumption))); done))))))); (all_goals (conv => whnf)))
        (all_goals (try dsimp only [Q.eta, Sn.eta, SlV.eta] at *)); (all_goals (first | exact Side.mk trivial | with_reducible exact Side.mk rfl | exact Side.mk (fun _ _ h => h) | exact Side.mk (Made.le (by assumption)) | refine Side.mk ?_ | refine Don.mk ?_ | skip))
        all_goals try simp only [hd, outO_none] at *
        all_goals first | exact hM | (rw [hR']; exact ⟨rfl, rfl, rfl⟩) | (exfalso; exact absurd (by assumption : ((3 : Int) != 0) = false) (by decide)) | (exfalso; have := of_decide_eq_false (by assumption : decide ((k : Int) < p) = false); omega)
      | some d =>
        rw [hd, Option.bind_some] at hs
        have hdm : okQ d = true := misO_ok hd (by rintro rfl; have := h60.2.2.1; simp at this)
        by_cases hc : k = 0 ∨ cmpQ d w < 0
        · rw [if_pos hc] at hs
          (repeat' ((conv => whnf); (first | with_reducible apply And.intro | (with_reducible intro hh; first | (with_reducible have hx := NewRow.self hh; clear hx) | (with_reducible have hrow := Made.row hh; have hle := Made.le hh; have hmade := hh; clear hh) | (with_reducible have hx := Ext.self hh; clear hx) | (with_reducible have hx := SlV.self hh; clear hx) | (with_reducible have hx := Value.self hh; clear hx) | with_reducible cases hh | skip) | (with_reducible apply AllEq.mk; intro yy hq) | with_reducible apply trivial | with_reducible apply Exists.intro () | (with_reducible apply ex_side; (first | with_reducible assumption | with_reducible apply fracs1 | with_reducible apply fracs2 | with_reducible apply fracs3 | with_reducible apply spans1 | with_reducible apply spans2 | (with_reducible apply NewRow.keep; with_reducible assumption) | (with_reducible apply RowAt.keep; with_reducible assumption) | assumption | (focus ((repeat (first | with_reducible assumption | (with_reducible apply RowAt.le; rotate_left; with_reducible assumption) | (with_reducible apply RowB.le; rotate_left; with_reducible assumption))); done)))) | (with_reducible apply ex_side (a := (_, _)); (focus (with_reducible apply And.intro <;> (focus ((repeat (first | with_reducible assumption | (with_reducible apply RowAt.le; rotate_left; with_reducible assumption) | (with_reducible apply RowB.le; rotate_left; with_reducible assumption))); done))))))); (all_goals (conv => whnf)))
          (all_goals (try dsimp only [Q.eta, Sn.eta, SlV.eta] at *)); (all_goals (first | exact Side.mk trivial | with_reducible exact Side.mk rfl | exact Side.mk (fun _ _ h => h) | exact Side.mk (Made.le (by assumption)) | refine Side.mk ?_ | refine Don.mk ?_ | skip))
          all_goals try simp only [hd, outO_some] at *
          all_goals first | exact hM | (exfalso; exact absurd (by assumption : ((0 : Int) != 0) = true) (by decide)) | exact ⟨hdm, hw.resolve_left (fun h => by have h9 := (by assumption : ((k : Int) == 0) = false); simp [h] at h9)⟩ | (refine ⟨m, Nat.lt_succ_self _, k + 1, _, _, _, _, _, _, _, _, _, _, _, _, _, _, _, _, _, _, _, _, _, _, _, _, _, _, _, _, _, _, _, _, _, _, _, _, _, _, _, _, _, _, _, _, _, _, _, _, _, _, _, _, _, _, _, _, _, _, _, _, _, _, _, _, _, _, _, _, _, _, _, _, _, _, _, by omega, .inr hdm, hs, by rw [hw1]⟩; done) | (exfalso; rcases hc with h | h; subst h; exact absurd (by assumption : (((0 : Nat) : Int) == 0) = false) (by decide); exact of_decide_eq_false hh h) | (exfalso; have := of_decide_eq_false (by assumption : decide ((k : Int) < p) = false); omega) | skip
        · rw [if_neg hc] at hs
          (repeat' ((conv => whnf); (first | with_reducible apply And.intro | (with_reducible intro hh; first | (with_reducible have hx := NewRow.self hh; clear hx) | (with_reducible have hrow := Made.row hh; have hle := Made.le hh; have hmade := hh; clear hh) | (with_reducible have hx := Ext.self hh; clear hx) | (with_reducible have hx := SlV.self hh; clear hx) | (with_reducible have hx := Value.self hh; clear hx) | with_reducible cases hh | skip) | (with_reducible apply AllEq.mk; intro yy hq) | with_reducible apply trivial | with_reducible apply Exists.intro () | (with_reducible apply ex_side; (first | with_reducible assumption | with_reducible apply fracs1 | with_reducible apply fracs2 | with_reducible apply fracs3 | with_reducible apply spans1 | with_reducible apply spans2 | (with_reducible apply NewRow.keep; with_reducible assumption) | (with_reducible apply RowAt.keep; with_reducible assumption) | assumption | (focus ((repeat (first | with_reducible assumption | (with_reducible apply RowAt.le; rotate_left; with_reducible assumption) | (with_reducible apply RowB.le; rotate_left; with_reducible assumption))); done)))) | (with_reducible apply ex_side (a := (_, _)); (focus (with_reducible apply And.intro <;> (focus ((repeat (first | with_reducible assumption | (with_reducible apply RowAt.le; rotate_left; with_reducible assumption) | (with_reducible apply RowB.le; rotate_left; with_reducible assumption))); done))))))); (all_goals (conv => whnf)))
          (all_goals (try dsimp only [Q.eta, Sn.eta, SlV.eta] at *)); (all_goals (first | exact Side.mk trivial | with_reducible exact Side.mk rfl | exact Side.mk (fun _ _ h => h) | exact Side.mk (Made.le (by assumption)) | refine Side.mk ?_ | refine Don.mk ?_ | skip))
          all_goals try simp only [hd, outO_some] at *
          all_goals first | exact hM | (exfalso; exact absurd (by assumption : ((0 : Int) != 0) = true) (by decide)) | exact ⟨hdm, hw.resolve_left (fun h => hc (.inl h))⟩ | (refine ⟨m, Nat.lt_succ_self _, k + 1, i, w, _, _, _, _, _, _, _, _, _, _, _, _, _, _, _, _, _, _, _, _, _, _, _, _, _, _, _, _, _, _, _, _, _, _, _, _, _, _, _, _, _, _, _, _, _, _, _, _, _, _, _, _, _, _, _, _, _, _, _, _, _, _, _, _, _, _, _, _, _, _, _, _, _, by omega, .inr (hw.resolve_left (fun h => hc (.inl h))), hs, by rw [hw1]⟩; done) | (exfalso; exact hc (.inl (by have := eq_of_beq (by assumption : ((k : Int) == 0) = true); omega))) | (exfalso; exact hc (.inr (of_decide_eq_true (by assumption : decide (cmpQ d w < 0) = true)))) | (exfalso; have := of_decide_eq_false (by assumption : decide ((k : Int) < p) = false); omega) | skip)

end Go.Proofs.Ytlfhjmnaommckaa
