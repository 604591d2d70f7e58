/- Contracts of both packages' functions on misfits, for all scales that lie in memory; no other condition. -/
import Derived.Test.YtlfhjmnaommckaaAb
import Derived.Test.YtlfhjmnaommckaaC1
import Derived.Test.YtlfhjmnaommckaaC2
import Derived.Test.YtlfhjmnaommckaaC3
import Derived.Test.YtlfhjmnaommckaaC4
import Derived.Test.YtlfhjmnaommckaaC5
import Derived.Test.YtlfhjmnaommckaaC6
import Derived.Test.YtlfhjmnaommckaaC7
import Derived.Test.YtlfhjmnaommckaaC8
import Derived.Test.YtlfhjmnaommckaaC9
import Derived.Test.YtlfhjmnaommckaaCO
import Derived.Test.YtlfhjmnaommckaaC12
import Derived.Test.YtlfhjmnaommckaaC13
import Derived.Test.YtlfhjmnaommckaaC14
import Derived.Test.YtlfhjmnaommckaaC15
import Derived.Test.YtlfhjmnaommckaaC16
import Derived.Test.YtlfhjmnaommckaaC17
import Derived.Test.YtlfhjmnaommckaaC18
import Derived.Test.YtlfhjmnaommckaaC19
import Derived.Test.YtlfhjmnaommckaaC20
import Derived.Test.YtlfhjmnaommckaaCL
import Derived.Test.YtlfhjmnaommckaaProg
set_option linter.unusedVariables false
set_option linter.unusedSimpArgs false
namespace Go.Proofs.Ytlfhjmnaommckaa
open Ab

def misO (u : Q) (l : List Q) (v : Ver) (x : Q) (j : Int) : Option Q := (lineO u x v j).bind fun t => (neaO u t 0 (0, Q0) l).map (·.2)
theorem near3_some (c : IQ) : near3 (some c) = (c.1, c.2, 0) := rfl
theorem near3_none : near3 none = (0, Q0, 3) := rfl
theorem lineO_ok {u x : Q} {v : Ver} {j : Int} {t : Q} (h : lineO u x v j = some t) : okQ t = true := by
  have h1 := lineT_some h
  rw [← h1]
  exact tolO_add _ _
theorem neaO_ok (u x : Q) : ∀ (l : List Q) (k : Nat) (b c : IQ), neaO u x k b l = some c → (l = [] → okQ b.2 = true) → (k ≠ 0 → okQ b.2 = true) → okQ c.2 = true
  | [], k, b, c, h, h1, _ => by
    rw [neaO] at h
    cases h
    exact h1 rfl
  | e :: r, k, b, c, h, _, h2 => by
    rw [neaO] at h
    cases hs : subO x (markT u k e) with
    | none => rw [hs] at h; cases h
    | some d =>
      rw [hs, Option.bind_some] at h
      have hd : okQ d = true := by have := tolO_sub x (markT u k e); rwa [hs, tolO_some] at this
      have h3 : okQ (if k = 0 ∨ cmpQ (sizQ d) b.2 < 0 then ((k : Int), sizQ d) else b).2 = true := by
        split
        · exact okQ_size hd
        · rename_i hn
          exact h2 (fun hk => hn (.inl hk))
      exact neaO_ok u x r (k + 1) _ c h (fun _ => h3) (fun _ => h3)
theorem misO_ok {u : Q} {l : List Q} {v : Ver} {x : Q} {j : Int} {w : Q} (h : misO u l v x j = some w) (hl : l ≠ []) : okQ w = true := by
  unfold misO at h
  cases ht : lineO u x v j with
  | none => rw [ht] at h; cases h
  | some t =>
    rw [ht, Option.bind_some] at h
    cases hn : neaO u t 0 (0, Q0) l with
    | none => rw [hn] at h; cases h
    | some c =>
      rw [hn] at h
      cases h
      exact neaO_ok u t l 0 (0, Q0) c hn (fun h => absurd h hl) (fun h => absurd rfl h)
abbrev MisIn (s : SlV) (u x : Q) (v : Ver) (j : Int) (l : List Q) (E : Ext) : Prop := FracsAt s l E ∧ okC u l = true ∧ LineIn u x v j
abbrev smisSp : Sp := .hf2 sclL 70 VL 109 QI (fun s v x (l : List Q) E => MisIn s.errs s.unit x.1 v x.2.1 l E) (fun s v x l => RQ (outO (misO s.unit l v x.1 x.2.1)))
set_option maxRecDepth 100000 in
theorem smis_ok : Sp.ok Try.prog 179 smisSp := by
  refine Sp.hf2_ok (T := ⟨[(178, slineSp), (195, sneaSp)], []⟩) follows eqok0 ⟨enters Try.func178 rfl rfl, sline_ok, enters Try.func195 rfl rfl, snea_ok, trivial⟩ [] Try.func179 rfl (by kernel_rfl) _ _ _ _ _ _ _ fun s v x l E hp => ?_
  obtain ⟨⟨a, b⟩, ⟨sa, n, c⟩⟩ := s
  obtain ⟨p, bk, u'⟩ := v
  obtain ⟨⟨x1, x2⟩, j, u⟩ := x
  obtain ⟨hr, hC, hL⟩ := hp
  dsimp only at hr hC hL
  cases hO : lineO ⟨a, b⟩ ⟨x1, x2⟩ (p, bk, u') j with
  | none =>
    have hM : misO ⟨a, b⟩ l (p, bk, u') ⟨x1, x2⟩ j = none := by unfold misO; rw [hO]; rfl
    rw [hM]
    (repeat' ((conv => whnf); (first | with_reducible apply And.intro | (with_reducible intro hh; first | (with_reducible have hx := NewRow.self hh; clear hx) | (with_reducible have hrow := Made.row hh; have hle := Made.le hh; have hmade := hh; clear hh) | (with_reducible have hx := Ext.self hh; clear hx) | (with_reducible have hx := SlV.self hh; clear hx) | (with_reducible have hx := Value.self hh; clear hx) | with_reducible cases hh | skip) | (with_reducible apply AllEq.mk; intro yy hq) | with_reducible apply trivial | with_reducible apply Exists.intro () | (with_reducible apply ex_side; (first | with_reducible assumption | with_reducible apply fracs1 | with_reducible apply fracs2 | with_reducible apply fracs3 | with_reducible apply spans1 | with_reducible apply spans2 | (with_reducible apply NewRow.keep; with_reducible assumption) | (with_reducible apply RowAt.keep; with_reducible assumption) | assumption | (focus ((repeat (first | with_reducible assumption | (with_reducible apply RowAt.le; rotate_left; with_reducible assumption) | (with_reducible apply RowB.le; rotate_left; with_reducible assumption))); done)))) | (with_reducible apply ex_side (a := (_, _)); (focus (with_reducible apply And.intro <;> (focus ((repeat (first | with_reducible assumption | (with_reducible apply RowAt.le; rotate_left; with_reducible assumption) | (with_reducible apply RowB.le; rotate_left; with_reducible assumption))); done))))))); (all_goals (conv => whnf)))
    (all_goals (try dsimp only [Q.eta, Sn.eta, SlV.eta] at *)); (all_goals (first | exact Side.mk trivial | with_reducible exact Side.mk rfl | exact Side.mk (fun _ _ h => h) | exact Side.mk (Made.le (by assumption)) | refine Side.mk ?_ | refine Don.mk ?_ | skip))
    all_goals subst_vars
    all_goals try simp only [hO, outO_none] at *
    all_goals first | exact hL | exact ⟨rfl, rfl, rfl⟩ | (exfalso; exact absurd (by assumption : ((3 : Int) != 0) = false) (by decide))
  | some t =>
    have ht := lineO_ok hO
    have hA : FracsAt ⟨sa, n, c⟩ l E ∧ okC ⟨a, b⟩ l = true ∧ okQ t = true := ⟨hr, hC, ht⟩
    have hA2 : FracsAt ⟨sa, n, c⟩ l E ∧ okC ⟨a, b⟩ l = true ∧ okQ (outO (lineO ⟨a, b⟩ ⟨x1, x2⟩ (p, bk, u') j)).1 = true := by rw [hO]; exact hA
    have hM : misO ⟨a, b⟩ l (p, bk, u') ⟨x1, x2⟩ j = (neaO ⟨a, b⟩ t 0 (0, Q0) l).map (·.2) := by unfold misO; rw [hO]; rfl
    rw [hM]
    have hN : RQ (outO ((neaO ⟨a, b⟩ t 0 (0, Q0) l).map (·.2))) = RQ ((near3 (neaO ⟨a, b⟩ t 0 (0, Q0) l)).2.1, (near3 (neaO ⟨a, b⟩ t 0 (0, Q0) l)).2.2) := by
      cases neaO ⟨a, b⟩ t 0 (0, Q0) l <;> rfl
    rw [hN]
    (repeat' ((conv => whnf); (first | with_reducible apply And.intro | (with_reducible intro hh; first | (with_reducible have hx := NewRow.self hh; clear hx) | (with_reducible have hrow := Made.row hh; have hle := Made.le hh; have hmade := hh; clear hh) | (with_reducible have hx := Ext.self hh; clear hx) | (with_reducible have hx := SlV.self hh; clear hx) | (with_reducible have hx := Value.self hh; clear hx) | with_reducible cases hh | skip) | (with_reducible apply AllEq.mk; intro yy hq) | with_reducible apply trivial | with_reducible apply Exists.intro () | (with_reducible apply ex_side; (first | with_reducible assumption | with_reducible apply fracs1 | with_reducible apply fracs2 | with_reducible apply fracs3 | with_reducible apply spans1 | with_reducible apply spans2 | (with_reducible apply NewRow.keep; with_reducible assumption) | (with_reducible apply RowAt.keep; with_reducible assumption) | assumption | (focus ((repeat (first | with_reducible assumption | (with_reducible apply RowAt.le; rotate_left; with_reducible assumption) | (with_reducible apply RowB.le; rotate_left; with_reducible assumption))); done)))) | (with_reducible apply ex_side (a := (_, _)); (focus (with_reducible apply And.intro <;> (focus ((repeat (first | with_reducible assumption | (with_reducible apply RowAt.le; rotate_left; with_reducible assumption) | (with_reducible apply RowB.le; rotate_left; with_reducible assumption))); done))))))); (all_goals (conv => whnf)))
    (all_goals (try dsimp only [Q.eta, Sn.eta, SlV.eta] at *)); (all_goals (first | exact Side.mk trivial | with_reducible exact Side.mk rfl | exact Side.mk (fun _ _ h => h) | exact Side.mk (Made.le (by assumption)) | refine Side.mk ?_ | refine Don.mk ?_ | skip))
    all_goals try simp only [hO, outO_some] at *
    all_goals first | exact hL | exact ⟨rfl, rfl, rfl⟩ | (exfalso; exact absurd (by assumption : ((0 : Int) != 0) = true) (by decide))
def misR (u : Q) (l : List Q) (v : Ver) (x : Q) (j : Int) : Q × Int := grd Q0 (askB u l v x) 1 (grd Q0 (withinB j 0 (v.1 - 1)) 2 (outO (misO u l v x j)))
abbrev misASp : Sp := .rf LA (fun x (l : List Q) E => FracsAt x.1.errs l E) (fun x l => RQ (misR x.1.unit l x.2.1 x.2.2.1 x.2.2.2.1))
def misT (u : Q) (l : List Q) (v : Ver) (x : Q) (j : Int) : Q := (neaT u (lineT u x v j) 0 (-1, Q1) false l).1.2
def misB (u : Q) (l : List Q) (v : Ver) (x : Q) (j : Int) : Bool := lineB u x v j || (neaT u (lineT u x v j) 0 (-1, Q1) false l).2
theorem misB_none {u : Q} {l : List Q} {v : Ver} {x : Q} {j : Int} (hC : okC u l = true) : misB u l v x j = (misO u l v x j).isNone := by
  unfold misB misO
  rw [lineB_none]
  cases h : lineO u x v j with
  | none => simp
  | some t =>
    rw [lineT_some h, (neaT_neaO u t l 0 (-1, Q1) false).1, neaO_ne hC, Option.bind_some]
    simp
theorem misT_some {u : Q} {l : List Q} {v : Ver} {x : Q} {j : Int} {w : Q} (hC : okC u l = true) (hw : misO u l v x j = some w) : misT u l v x j = w := by
  unfold misO at hw
  unfold misT
  cases h : lineO u x v j with
  | none => rw [h] at hw; cases hw
  | some t =>
    rw [h, Option.bind_some] at hw
    rw [lineT_some h]
    have h2 := (neaT_neaO u t l 0 (-1, Q1) false).2
    rw [neaO_ne hC] at h2
    cases hn : neaO u t 0 (0, Q0) l with
    | none => rw [hn] at hw; cases hw
    | some c =>
      rw [hn] at hw
      cases hw
      rw [h2 c hn]
theorem one_mis {u : Q} {l : List Q} {v : Ver} {x : Q} {j : Int} (hC : okC u l = true) : RQ ((if misB u l v x j = true then (⟨0, 0⟩ : Q) else misT u l v x j), (if misB u l v x j = true then (3 : Int) else 0)) = RQ (outO (misO u l v x j)) := one_sum (misB_none hC) (fun t ht => misT_some hC ht)

end Go.Proofs.Ytlfhjmnaommckaa
