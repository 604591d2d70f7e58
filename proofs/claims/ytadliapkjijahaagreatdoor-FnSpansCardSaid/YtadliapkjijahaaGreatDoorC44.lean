/- Contract of the library's function that multiplies spans; no condition. -/
import Derived.Test.YtadliapkjijahaaGreatDoorAb
import Derived.Test.YtadliapkjijahaaGreatDoorC1
import Derived.Test.YtadliapkjijahaaGreatDoorC2
import Derived.Test.YtadliapkjijahaaGreatDoorC3
import Derived.Test.YtadliapkjijahaaGreatDoorC4
import Derived.Test.YtadliapkjijahaaGreatDoorC5
import Derived.Test.YtadliapkjijahaaGreatDoorCL
import Derived.Test.YtadliapkjijahaaGreatDoorC6
import Derived.Test.YtadliapkjijahaaGreatDoorC7
import Derived.Test.YtadliapkjijahaaGreatDoorC8
import Derived.Test.YtadliapkjijahaaGreatDoorC9
import Derived.Test.YtadliapkjijahaaGreatDoorCO
import Derived.Test.YtadliapkjijahaaGreatDoorC10
import Derived.Test.YtadliapkjijahaaGreatDoorC12
import Derived.Test.YtadliapkjijahaaGreatDoorC25
import Derived.Test.YtadliapkjijahaaGreatDoorC30
import Derived.Test.YtadliapkjijahaaGreatDoorCN
import Derived.Test.YtadliapkjijahaaGreatDoorCS
import Derived.Test.YtadliapkjijahaaGreatDoorC39
import Derived.Test.YtadliapkjijahaaGreatDoorC40
import Derived.Test.YtadliapkjijahaaGreatDoorC41
import Derived.Test.YtadliapkjijahaaGreatDoorCG
import Derived.Test.YtadliapkjijahaaGreatDoorC42
import Derived.Test.YtadliapkjijahaaGreatDoorC43
import Derived.Test.YtadliapkjijahaaGreatDoorProg
set_option linter.unusedVariables false
set_option linter.unusedSimpArgs false
namespace Go.Proofs.YtadliapkjijahaaGreatDoor
open Ab

def mulR (s t : Sn) : Sn × Int := if okS s && okS t then outS (timO s t) else (⟨⟨0, 0⟩, ⟨0, 0⟩⟩, 1)
theorem mulR_1 {s t : Sn} (h : (okS s && okS t) = false) : mulR s t = (⟨⟨0, 0⟩, ⟨0, 0⟩⟩, 1) := by unfold mulR; rw [if_neg (by simp [h])]
theorem mulR_2 {s t : Sn} (h : (okS s && okS t) = true) : mulR s t = outS (timO s t) := by unfold mulR; rw [if_pos h]
abbrev mulSnKSp : Sp := .nf S2 (fun _ (_ : Unit) _ => True) (fun x _ (_ : Unit) => RS (mulR x.1 x.2.1)) (fun _ _ _ E E' => Keeps E E')
abbrev mulSnSp : Sp := .nf S2 (fun _ (_ : Unit) _ => True) (fun x _ (_ : Unit) => RS (mulR x.1 x.2.1)) (fun _ _ _ _ _ => True)
theorem own_list (l : List Q) {E : Ext} {e : TypeId} (r : NewRow E (l.flatMap Q.cells) e) (hl : l.length ≤ maxLen) : OwnRow r.to e 2 ⟨some ⟨r.b, 0, none⟩, l.length, l.length⟩ (l.flatMap Q.cells) := by
  have h2 : (l.flatMap Q.cells).length = l.length * 2 := by
    clear r hl
    induction l with
    | nil => rfl
    | cons x r ih => rw [List.flatMap_cons, List.length_append, ih, List.length_cons]; show 2 + _ = _; omega
  exact ⟨h2, Nat.le_refl _, hl, .inr ⟨r.b, rfl, by rw [new_own, h2], fun j => r.at_ j⟩⟩
theorem row_list (l : List Q) {E : Ext} {e : TypeId} (r : NewRow E (l.flatMap Q.cells) e) (hl : l.length ≤ maxLen) : FracsAt ⟨some ⟨r.b, 0, none⟩, l.length, l.length⟩ l r.to := OwnRow.rowAt (en := Q.cells) (c := 2) (fun _ => rfl) (by decide) (own_list l r hl)
theorem some_tol {o : Option Q} (h : o.isNone = false) : o = some (tolO o) := by
  cases o with
  | none => cases h
  | some q => rw [tolO_some]
def mulV (a b : Q) : VQ := ⟨tolO (mulO a b), tolO_mul a b⟩
theorem mul_end (s t : Sn) {x z : VQ} (hx : (vsort [mulV s.lo t.lo, mulV s.lo t.hi, mulV s.hi t.lo, mulV s.hi t.hi])[0]? = some x) (hz : (vsort [mulV s.lo t.lo, mulV s.lo t.hi, mulV s.hi t.lo, mulV s.hi t.hi])[3]? = some z) :
    outS (timO s t) = (if (((false || (mulO s.lo t.lo).isNone) || (mulO s.lo t.hi).isNone) || (mulO s.hi t.lo).isNone) || (mulO s.hi t.hi).isNone then (⟨⟨0, 0⟩, ⟨0, 0⟩⟩ : Sn) else ⟨x.1, z.1⟩, if (((false || (mulO s.lo t.lo).isNone) || (mulO s.lo t.hi).isNone) || (mulO s.hi t.lo).isNone) || (mulO s.hi t.hi).isNone then 3 else 0) := by
  have hf := goM_four _ _ _ _ hx hz
  unfold timO
  rcases h0 : (mulO s.lo t.lo).isNone with _ | _
  · rcases h1 : (mulO s.lo t.hi).isNone with _ | _
    · rcases h2 : (mulO s.hi t.lo).isNone with _ | _
      · rcases h3 : (mulO s.hi t.hi).isNone with _ | _
        · rw [some_tol h0, some_tol h1, some_tol h2, some_tol h3]
          show outS (goM [some (mulV s.lo t.hi).1, some (mulV s.hi t.lo).1, some (mulV s.hi t.hi).1] ⟨(mulV s.lo t.lo).1, (mulV s.lo t.lo).1⟩) = _
          rw [hf]
          rfl
        · rw [Option.isNone_iff_eq_none.1 h3, some_tol h0, some_tol h1, some_tol h2]; rfl
      · rw [Option.isNone_iff_eq_none.1 h2, some_tol h0, some_tol h1]
        cases h3 : (mulO s.hi t.hi).isNone <;> rfl
    · rw [Option.isNone_iff_eq_none.1 h1, some_tol h0]
      cases h2 : (mulO s.hi t.lo).isNone <;> cases h3 : (mulO s.hi t.hi).isNone <;> rfl
  · rw [Option.isNone_iff_eq_none.1 h0]
    cases h1 : (mulO s.lo t.hi).isNone <;> cases h2 : (mulO s.hi t.lo).isNone <;> cases h3 : (mulO s.hi t.hi).isNone <;> rfl
set_option maxHeartbeats 2000000 in
set_option maxRecDepth 100000 in
theorem mulSnK_ok : Sp.ok Tryz.prog 12 mulSnKSp := by
  refine Sp.nf_ok (T := ⟨[(48, spsSp), (53, tmulqSp), (52, ascSp), (49, spanSp)], []⟩) follows eqok0 ⟨enters Tryz.func48 rfl rfl, sps_ok, enters Tryz.func53 rfl rfl, tmulq_ok, enters Tryz.func52 rfl rfl, ascend_ok, enters Tryz.func49 rfl rfl, span_ok, trivial⟩ [(4, .take 0 (.take 1 (.take 2 (.take 3 (.take 4 (.take 6 (.take 7 (.take 8 (.take 9 (.take 10 (.take 12 (.take 13 (.take 14 (.take 15 (.take 16 (.take 18 (.take 19 (.take 20 (.take 21 (.take 22 (.alt 5 (.alt 11 (.alt 17 (.alt 23 (.alt 24 (.alt 25 (.take 26 (.done)) (.last)) (.last)) (.last)) (.last)) (.last)) (.last)))))))))))))))))))))), (5, .take 0 (.take 1 (.take 2 (.take 3 (.take 4 (.take 5 (.take 6 (.take 7 (.alt 8 (.take 9 (.take 10 (.alt 11 (.take 12 (.done)) (.last)))) (.last))))))))))] Tryz.func12 rfl (by kernel_rfl) _ _ _ _ fun x l E hp => ?_
  obtain ⟨⟨⟨a, b⟩, ⟨c, d⟩⟩, ⟨⟨a', b'⟩, ⟨c', d'⟩⟩, u⟩ := x
  by_cases hS : (okS ⟨⟨a, b⟩, ⟨c, d⟩⟩ && okS ⟨⟨a', b'⟩, ⟨c', d'⟩⟩) = true
  · obtain ⟨k1, k2⟩ := Bool.and_eq_true_iff.1 hS
    have k3 := okS_p k1
    have k4 := okS_p k2
    obtain ⟨h1, h2⟩ := k3
    obtain ⟨h3, h4⟩ := k4
    dsimp only at h1 h2 h3 h4
    (repeat' ((conv => whnf); (first | with_reducible apply And.intro | (with_reducible intro hh; first | (with_reducible have hx := NewRow.self hh; clear hx) | (with_reducible have hrow := Made.row hh; have hle := Made.le hh; have hmade := hh; clear hh) | (with_reducible have hrow := Fresh.rowS hh; have hle := Fresh.leS hh; have hfr := hh; clear hh) | (with_reducible have hx := Ext.self hh; clear hx) | (with_reducible have hx := SlV.self hh; clear hx) | (with_reducible have hx := Value.self hh; clear hx) | with_reducible cases hh | skip) | (with_reducible apply AllEq.mk; intro yy hq) | with_reducible apply trivial | with_reducible apply Exists.intro () | (with_reducible apply ex_side; (first | with_reducible assumption | with_reducible apply fracs1 | with_reducible apply fracs2 | with_reducible apply fracs3 | with_reducible apply spans1 | with_reducible apply spans2 | (with_reducible apply NewRow.keep; with_reducible assumption) | (with_reducible apply RowAt.keep; with_reducible assumption) | assumption | (focus ((repeat (first | with_reducible assumption | (with_reducible apply RowAt.le; rotate_left; with_reducible assumption) | (with_reducible apply RowB.le; rotate_left; with_reducible assumption))); done)))) | (with_reducible apply ex_side (a := (_, _)); (focus (with_reducible apply And.intro <;> (focus ((repeat (first | with_reducible assumption | (with_reducible apply RowAt.le; rotate_left; with_reducible assumption) | (with_reducible apply RowB.le; rotate_left; with_reducible assumption))); done))))))); (all_goals (conv => whnf)))
    all_goals try with_reducible exact Side.mk rfl
    all_goals try exact Side.mk (by decide)
    all_goals try exact Side.mk ⟨by assumption, by assumption⟩
    (all_goals (try dsimp only [Q.eta, Sn.eta, SlV.eta] at *)); (all_goals (first | exact Side.mk trivial | with_reducible exact Side.mk rfl | exact Side.mk (fun _ _ h => h) | exact Side.mk (Made.le (by assumption)) | refine Side.mk ?_ | refine Don.mk ?_ | skip))
    · exfalso
      have hA : allS [⟨⟨a, b⟩, ⟨c, d⟩⟩, ⟨⟨a', b'⟩, ⟨c', d'⟩⟩] = true := by unfold allS; rw [List.all_cons, List.all_cons, k1, k2]; rfl
      rw [hA] at hh
      cases hh
    · rename_i r1 hA y1 q1 c1 e1 y2 q2 c2 e2 y3 q3 c3 e3 y4 q4
      subst q1 q2 q3 q4 e1 e2 e3 hq
      have hrow := row_list ([mulV ⟨a, b⟩ ⟨a', b'⟩, mulV ⟨a, b⟩ ⟨c', d'⟩, mulV ⟨c, d⟩ ⟨a', b'⟩, mulV ⟨c, d⟩ ⟨c', d'⟩].map (·.1)) hh (show 4 ≤ maxLen by decide)
      refine ⟨[mulV ⟨a, b⟩ ⟨a', b'⟩, mulV ⟨a, b⟩ ⟨c', d'⟩, mulV ⟨c, d⟩ ⟨a', b'⟩, mulV ⟨c, d⟩ ⟨c', d'⟩], Side.mk ⟨hrow, (show 1 ≤ 4 by decide), (show 4 ≤ 1048576 by decide)⟩, fun y E1 hs => ?_⟩
      have hkeep : Keeps E E1 := ((Keeps.new r1).trans (Keeps.new hh)).trans hs.out.1.keeps
      have hy := hs.out.1.row
      obtain ⟨ya, yn, yc⟩ := y
      have hl := vsort_len [mulV ⟨a, b⟩ ⟨a', b'⟩, mulV ⟨a, b⟩ ⟨c', d'⟩, mulV ⟨c, d⟩ ⟨a', b'⟩, mulV ⟨c, d⟩ ⟨c', d'⟩]
      have hM := @mul_end ⟨⟨a, b⟩, ⟨c, d⟩⟩ ⟨⟨a', b'⟩, ⟨c', d'⟩⟩
      dsimp only at hM
      revert hy hl hM
      generalize vsort [mulV ⟨a, b⟩ ⟨a', b'⟩, mulV ⟨a, b⟩ ⟨c', d'⟩, mulV ⟨c, d⟩ ⟨a', b'⟩, mulV ⟨c, d⟩ ⟨c', d'⟩] = w
      intro hy hl hM
      have hl4 : w.length = 4 := hl
      obtain ⟨x, hx⟩ : ∃ x, w[0]? = some x := ⟨_, List.getElem?_eq_getElem (by omega)⟩
      obtain ⟨z, hz⟩ : ∃ z, w[3]? = some z := ⟨_, List.getElem?_eq_getElem (by omega)⟩
      have hM := hM hx hz
      have hx1 : (w.map (·.1))[0]? = some x.1 := by rw [List.getElem?_map, hx]; rfl
      have hz1 : (w.map (·.1))[3]? = some z.1 := by rw [List.getElem?_map, hz]; rfl
      have hn := hy.1
      dsimp only at hn
      rw [List.length_map, hl4] at hn
      subst hn
      clear hs hrow hl
      cases ya with
      | none => have := hy.2.2.1 rfl; rw [this] at hx1; cases hx1
      | some ad =>
      obtain ⟨g0, g1⟩ := FracsAt.at hy (a := ad) rfl hx1
      obtain ⟨g2, g3⟩ := FracsAt.at hy (a := ad) rfl hz1
      have f0 : E1 ((ad.add (Int.toNat 0 * 2)).add 0) = some (.int .i64 x.1.p) := g0
      have f1 : E1 ((ad.add (Int.toNat 0 * 2)).add (0 + 1)) = some (.int .i64 x.1.q) := g1
      have f2 : E1 ((ad.add (Int.toNat 3 * 2)).add 0) = some (.int .i64 z.1.p) := g2
      have f3 : E1 ((ad.add (Int.toNat 3 * 2)).add (0 + 1)) = some (.int .i64 z.1.q) := g3
      clear hy hx hz hx1 hz1 g0 g1 g2 g3
      (repeat' ((conv => whnf); (first | with_reducible apply And.intro | (with_reducible intro hh; first | (with_reducible have hx := NewRow.self hh; clear hx) | (with_reducible have hrow := Made.row hh; have hle := Made.le hh; have hmade := hh; clear hh) | (with_reducible have hrow := Fresh.rowS hh; have hle := Fresh.leS hh; have hfr := hh; clear hh) | (with_reducible have hx := Ext.self hh; clear hx) | (with_reducible have hx := SlV.self hh; clear hx) | (with_reducible have hx := Value.self hh; clear hx) | with_reducible cases hh | skip) | (with_reducible apply AllEq.mk; intro yy hq) | with_reducible apply trivial | with_reducible apply Exists.intro () | (with_reducible apply ex_side; (first | with_reducible assumption | with_reducible apply fracs1 | with_reducible apply fracs2 | with_reducible apply fracs3 | with_reducible apply spans1 | with_reducible apply spans2 | (with_reducible apply NewRow.keep; with_reducible assumption) | (with_reducible apply RowAt.keep; with_reducible assumption) | assumption | (focus ((repeat (first | with_reducible assumption | (with_reducible apply RowAt.le; rotate_left; with_reducible assumption) | (with_reducible apply RowB.le; rotate_left; with_reducible assumption))); done)))) | (with_reducible apply ex_side (a := (_, _)); (focus (with_reducible apply And.intro <;> (focus ((repeat (first | with_reducible assumption | (with_reducible apply RowAt.le; rotate_left; with_reducible assumption) | (with_reducible apply RowB.le; rotate_left; with_reducible assumption))); done))))))); (all_goals (conv => whnf)))
      all_goals try with_reducible exact Side.mk rfl
      all_goals try exact Side.mk (by decide)
      (all_goals (try dsimp only [Q.eta, Sn.eta, SlV.eta] at *)); (all_goals (first | exact Side.mk trivial | with_reducible exact Side.mk rfl | exact Side.mk (fun _ _ h => h) | exact Side.mk (Made.le (by assumption)) | refine Side.mk ?_ | refine Don.mk ?_ | skip))
      all_goals try exact ⟨by omega, by omega⟩
      rw [mulR_2 hS, hM]
      exact ⟨(), rfl, hkeep⟩
  · have hA : allS [⟨⟨a, b⟩, ⟨c, d⟩⟩, ⟨⟨a', b'⟩, ⟨c', d'⟩⟩] = false := by
      unfold allS
      rw [List.all_cons, List.all_cons, List.all_nil, Bool.and_true]
      simpa using hS
    (repeat' ((conv => whnf); (first | with_reducible apply And.intro | (with_reducible intro hh; first | (with_reducible have hx := NewRow.self hh; clear hx) | (with_reducible have hrow := Made.row hh; have hle := Made.le hh; have hmade := hh; clear hh) | (with_reducible have hrow := Fresh.rowS hh; have hle := Fresh.leS hh; have hfr := hh; clear hh) | (with_reducible have hx := Ext.self hh; clear hx) | (with_reducible have hx := SlV.self hh; clear hx) | (with_reducible have hx := Value.self hh; clear hx) | with_reducible cases hh | skip) | (with_reducible apply AllEq.mk; intro yy hq) | with_reducible apply trivial | with_reducible apply Exists.intro () | (with_reducible apply ex_side; (first | with_reducible assumption | with_reducible apply fracs1 | with_reducible apply fracs2 | with_reducible apply fracs3 | with_reducible apply spans1 | with_reducible apply spans2 | (with_reducible apply NewRow.keep; with_reducible assumption) | (with_reducible apply RowAt.keep; with_reducible assumption) | assumption | (focus ((repeat (first | with_reducible assumption | (with_reducible apply RowAt.le; rotate_left; with_reducible assumption) | (with_reducible apply RowB.le; rotate_left; with_reducible assumption))); done)))) | (with_reducible apply ex_side (a := (_, _)); (focus (with_reducible apply And.intro <;> (focus ((repeat (first | with_reducible assumption | (with_reducible apply RowAt.le; rotate_left; with_reducible assumption) | (with_reducible apply RowB.le; rotate_left; with_reducible assumption))); done))))))); (all_goals (conv => whnf)))
    all_goals try (exfalso; exact absurd (by assumption : (!allS [⟨⟨a, b⟩, ⟨c, d⟩⟩, ⟨⟨a', b'⟩, ⟨c', d'⟩⟩]) = false) (by rw [hA]; decide))
    (all_goals (try dsimp only [Q.eta, Sn.eta, SlV.eta] at *)); (all_goals (first | exact Side.mk trivial | with_reducible exact Side.mk rfl | exact Side.mk (fun _ _ h => h) | exact Side.mk (Made.le (by assumption)) | refine Side.mk ?_ | refine Don.mk ?_ | skip))
    rw [mulR_1 (by simpa using hS)]
    exact ⟨(), rfl, Keeps.new (by assumption)⟩
theorem mulSn_ok : Sp.ok Tryz.prog 12 mulSnSp := by
  intro bs m E K hk
  refine mulSnK_ok bs m E K ?_
  simp only [Sp.nf] at hk ⊢
  split at hk
  · split at hk
    · obtain ⟨l, hl, hk⟩ := hk
      exact ⟨l, hl, fun y E' _ => hk y E' trivial⟩
    · cases hk
  · cases hk

end Go.Proofs.YtadliapkjijahaaGreatDoor
