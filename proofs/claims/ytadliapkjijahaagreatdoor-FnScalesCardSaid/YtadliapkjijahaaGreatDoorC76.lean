/- Contracts whose answers are told ahead, of the laws' small tests and of the operations; no condition. -/
import Derived.Test.YtadliapkjijahaaGreatDoorAb
import Derived.Test.YtadliapkjijahaaGreatDoorC1
import Derived.Test.YtadliapkjijahaaGreatDoorC2
import Derived.Test.YtadliapkjijahaaGreatDoorC3
import Derived.Test.YtadliapkjijahaaGreatDoorC4
import Derived.Test.YtadliapkjijahaaGreatDoorC5
import Derived.Test.YtadliapkjijahaaGreatDoorCL
import Derived.Test.YtadliapkjijahaaGreatDoorC6
import Derived.Test.YtadliapkjijahaaGreatDoorC7
import Derived.Test.YtadliapkjijahaaGreatDoorC8
import Derived.Test.YtadliapkjijahaaGreatDoorC9
import Derived.Test.YtadliapkjijahaaGreatDoorCO
import Derived.Test.YtadliapkjijahaaGreatDoorC10
import Derived.Test.YtadliapkjijahaaGreatDoorC12
import Derived.Test.YtadliapkjijahaaGreatDoorC70
import Derived.Test.YtadliapkjijahaaGreatDoorProg
set_option linter.unusedVariables false
set_option linter.unusedSimpArgs false
namespace Go.Proofs.YtadliapkjijahaaGreatDoor
open Ab

/-! an answer that is told ahead -/
theorem Sp.told {α δ : Type} {A : ArgL α} {en : δ → Value} {out : α → δ} {f : FuncId} (hok : Sp.ok Tryz.prog f (Sp.pf A (fun _ => True) fun x => en (out x))) : Sp.ok Tryz.prog f (Sp.rf A (fun x (l : δ) _ => l = out x) (fun _ l => en l)) := by
  intro bs m E K hk
  refine hok bs m E K ?_
  simp only [Sp.rf] at hk
  simp only [Sp.pf]
  split at hk
  · split at hk
    · obtain ⟨l, hl, hk⟩ := hk
      rw [hl.out] at hk
      exact ⟨Side.mk trivial, hk⟩
    · cases hk
  · cases hk
theorem Sp.toldN {α δ : Type} {A : ArgL α} {en : δ → Value} {out : α → δ} {f : FuncId} (hok : Sp.ok Tryz.prog f (Sp.nf A (fun _ (_ : Unit) _ => True) (fun x _ (_ : Unit) => en (out x)) (fun _ _ _ _ _ => True))) : Sp.ok Tryz.prog f (Sp.nf A (fun x (l : δ) _ => l = out x) (fun _ l (_ : Unit) => en l) (fun _ _ _ _ _ => True)) := by
  intro bs m E K hk
  refine hok bs m E K ?_
  simp only [Sp.nf] at hk ⊢
  split at hk
  · split at hk
    · obtain ⟨l, hl, hk⟩ := hk
      rw [hl.out] at hk
      exact ⟨(), Side.mk trivial, fun y E' hq => hk y E' hq⟩
    · cases hk
  · cases hk
abbrev BV (b : Bool) : Value := .bool b
/-! small tests -/
abbrev bigSp : Sp := .pf FS (fun _ => True) (fun x => .bool (decide ((x.1.n : Int) > 4096)))
set_option maxRecDepth 100000 in
theorem big_ok : Sp.ok Tryz.prog 6 bigSp := by
  refine Sp.pf_ok (T := ⟨[], []⟩) follows eqok0 trivial [] Tryz.func6 rfl (by kernel_rfl) _ _ _ fun x E hp => ?_
  obtain ⟨⟨sa, n, c⟩, u⟩ := x
  (repeat' ((conv => whnf); (first | with_reducible apply And.intro | (with_reducible intro hh; first | (with_reducible have hx := NewRow.self hh; clear hx) | (with_reducible have hrow := Made.row hh; have hle := Made.le hh; have hmade := hh; clear hh) | (with_reducible have hrow := Fresh.rowS hh; have hle := Fresh.leS hh; have hfr := hh; clear hh) | (with_reducible have hx := Ext.self hh; clear hx) | (with_reducible have hx := SlV.self hh; clear hx) | (with_reducible have hx := Value.self hh; clear hx) | with_reducible cases hh | skip) | (with_reducible apply AllEq.mk; intro yy hq) | with_reducible apply trivial | with_reducible apply Exists.intro () | (with_reducible apply ex_side; (first | with_reducible assumption | with_reducible apply fracs1 | with_reducible apply fracs2 | with_reducible apply fracs3 | with_reducible apply spans1 | with_reducible apply spans2 | (with_reducible apply NewRow.keep; with_reducible assumption) | (with_reducible apply RowAt.keep; with_reducible assumption) | assumption | (focus ((repeat (first | with_reducible assumption | (with_reducible apply RowAt.le; rotate_left; with_reducible assumption) | (with_reducible apply RowB.le; rotate_left; with_reducible assumption))); done)))) | (with_reducible apply ex_side (a := (_, _)); (focus (with_reducible apply And.intro <;> (focus ((repeat (first | with_reducible assumption | (with_reducible apply RowAt.le; rotate_left; with_reducible assumption) | (with_reducible apply RowB.le; rotate_left; with_reducible assumption))); done))))))); (all_goals (conv => whnf)))
  (all_goals (try dsimp only [Q.eta, Sn.eta, SlV.eta] at *)); (all_goals (first | exact Side.mk trivial | with_reducible exact Side.mk rfl | exact Side.mk (fun _ _ h => h) | exact Side.mk (Made.le (by assumption)) | refine Side.mk ?_ | refine Don.mk ?_ | skip))
  rfl
/-- Less, of two fractions. -/
def lessB (a b : Q) : Bool := okQ a && okQ b && decide (cmpQ a b < 0)
theorem less_f {a b : Q} (ha : okQ a = true) (hb : okQ b = true) (h : vq b ≤ vq a) : lessB a b = false := by
  have := cmp_lt (okQ_pos ha) (okQ_pos hb)
  unfold lessB
  rw [ha, hb]
  simp
  grind
theorem less_t {a b : Q} (ha : okQ a = true) (hb : okQ b = true) (h : vq a < vq b) : lessB a b = true := by
  have := cmp_lt (okQ_pos ha) (okQ_pos hb)
  unfold lessB
  rw [ha, hb]
  simp
  grind
theorem less_iff {a b : Q} (ha : okQ a = true) (hb : okQ b = true) : lessB a b = true ↔ vq a < vq b := by
  have := cmp_lt (okQ_pos ha) (okQ_pos hb)
  unfold lessB
  rw [ha, hb]
  simp [this]
abbrev lessSp : Sp := .pf F2 (fun _ => True) (fun x => BV (lessB x.1 x.2.1))
set_option maxRecDepth 100000 in
theorem less_ok : Sp.ok Tryz.prog 22 lessSp := by
  refine Sp.pf_ok (T := ⟨[(66, cmpFSp)], []⟩) follows eqok0 ⟨enters Tryz.func66 rfl rfl, scmpF_ok, trivial⟩ [] Tryz.func22 rfl (by kernel_rfl) _ _ _ fun x E hp => ?_
  obtain ⟨⟨a, b⟩, ⟨c, d⟩, u⟩ := x
  (repeat' ((conv => whnf); (first | with_reducible apply And.intro | (with_reducible intro hh; first | (with_reducible have hx := NewRow.self hh; clear hx) | (with_reducible have hrow := Made.row hh; have hle := Made.le hh; have hmade := hh; clear hh) | (with_reducible have hrow := Fresh.rowS hh; have hle := Fresh.leS hh; have hfr := hh; clear hh) | (with_reducible have hx := Ext.self hh; clear hx) | (with_reducible have hx := SlV.self hh; clear hx) | (with_reducible have hx := Value.self hh; clear hx) | with_reducible cases hh | skip) | (with_reducible apply AllEq.mk; intro yy hq) | with_reducible apply trivial | with_reducible apply Exists.intro () | (with_reducible apply ex_side; (first | with_reducible assumption | with_reducible apply fracs1 | with_reducible apply fracs2 | with_reducible apply fracs3 | with_reducible apply spans1 | with_reducible apply spans2 | (with_reducible apply NewRow.keep; with_reducible assumption) | (with_reducible apply RowAt.keep; with_reducible assumption) | assumption | (focus ((repeat (first | with_reducible assumption | (with_reducible apply RowAt.le; rotate_left; with_reducible assumption) | (with_reducible apply RowB.le; rotate_left; with_reducible assumption))); done)))) | (with_reducible apply ex_side (a := (_, _)); (focus (with_reducible apply And.intro <;> (focus ((repeat (first | with_reducible assumption | (with_reducible apply RowAt.le; rotate_left; with_reducible assumption) | (with_reducible apply RowB.le; rotate_left; with_reducible assumption))); done))))))); (all_goals (conv => whnf)))
  (all_goals (try dsimp only [Q.eta, Sn.eta, SlV.eta] at *)); (all_goals (first | exact Side.mk trivial | with_reducible exact Side.mk rfl | exact Side.mk (fun _ _ h => h) | exact Side.mk (Made.le (by assumption)) | refine Side.mk ?_ | refine Don.mk ?_ | skip))
  all_goals (
    have hL : lessB ⟨a, b⟩ ⟨c, d⟩ = ((okQ ⟨a, b⟩ && okQ ⟨c, d⟩) && decide (cmpQ ⟨a, b⟩ ⟨c, d⟩ < 0)) := rfl
    show AV.v (Value.bool _) = AV.v (Value.bool (lessB ⟨a, b⟩ ⟨c, d⟩))
    rw [hL]
    by_cases h : (okQ ⟨a, b⟩ && okQ ⟨c, d⟩) = true
    · rw [h] at hh ⊢
      first
        | (exfalso; simp at hh; done)
        | simp
    · rw [show (okQ ⟨a, b⟩ && okQ ⟨c, d⟩) = false by simpa using h] at hh ⊢
      first
        | (exfalso; simp at hh; done)
        | simp)
/-! the operations -/
def qaddR (a b : Q) : Q × Int := if okQ a && okQ b then (redQ (opAdd a b).1 (opAdd a b).2, redC (opAdd a b).1 (opAdd a b).2) else (⟨0, 0⟩, 1)
def qsubR (a b : Q) : Q × Int := if okQ a && okQ b then (redQ (opSub a b).1 (opSub a b).2, redC (opSub a b).1 (opSub a b).2) else (⟨0, 0⟩, 1)
def qmulR (a b : Q) : Q × Int := if okQ a && okQ b then (redQ (opMul a b).1 (opMul a b).2, redC (opMul a b).1 (opMul a b).2) else (⟨0, 0⟩, 1)
theorem resQ_pair (ok : Bool) (n : Int × Int) : resQ ok n = RQ (if ok then (redQ n.1 n.2, redC n.1 n.2) else (⟨0, 0⟩, 1)) := by cases ok <;> rfl
theorem pair_some {n : Int × Int} {a : Q} (h : mkO n = some a) : (redQ n.1 n.2, redC n.1 n.2) = (a, 0) := by rw [red_out, h]; rfl
theorem qaddR_some {a b c : Q} (ha : okQ a = true) (hb : okQ b = true) (h : addO a b = some c) : (c, 0) = qaddR a b := by
  rw [add_def] at h
  unfold qaddR
  rw [ha, hb, if_pos (show (true && true) = true from rfl)]
  exact (pair_some (n := opAdd a b) h).symm
theorem qsubR_some {a b c : Q} (ha : okQ a = true) (hb : okQ b = true) (h : subO a b = some c) : (c, 0) = qsubR a b := by
  rw [sub_def] at h
  unfold qsubR
  rw [ha, hb, if_pos (show (true && true) = true from rfl)]
  exact (pair_some (n := opSub a b) h).symm
theorem qmulR_some {a b c : Q} (ha : okQ a = true) (hb : okQ b = true) (h : mulO a b = some c) : (c, 0) = qmulR a b := by
  rw [mul_def] at h
  unfold qmulR
  rw [ha, hb, if_pos (show (true && true) = true from rfl)]
  exact (pair_some (n := opMul a b) h).symm
abbrev saddTSp : Sp := .rf F2 (fun x (l : Q × Int) _ => l = qaddR x.1 x.2.1) (fun _ l => RQ l)
abbrev ssubTSp : Sp := .rf F2 (fun x (l : Q × Int) _ => l = qsubR x.1 x.2.1) (fun _ l => RQ l)
abbrev smulTSp : Sp := .rf F2 (fun x (l : Q × Int) _ => l = qmulR x.1 x.2.1) (fun _ l => RQ l)
theorem saddT_ok : Sp.ok Tryz.prog 16 saddTSp := Sp.told (en := RQ) (sp_eq (pf_congr fun x => resQ_pair _ _) saddF_ok)
theorem ssubT_ok : Sp.ok Tryz.prog 17 ssubTSp := Sp.told (en := RQ) (sp_eq (pf_congr fun x => resQ_pair _ _) ssubF_ok)
theorem smulT_ok : Sp.ok Tryz.prog 18 smulTSp := Sp.told (en := RQ) (sp_eq (pf_congr fun x => resQ_pair _ _) smulF_ok)
abbrev lessTSp : Sp := .rf F2 (fun x (l : Bool) _ => l = lessB x.1 x.2.1) (fun _ l => BV l)
theorem lessT_ok : Sp.ok Tryz.prog 22 lessTSp := Sp.told (en := BV) less_ok
/-! a number that is small over a small one -/
theorem red_small' {p q : Int} (hq : 1 ≤ q) (h1 : p.natAbs ≤ 1000000000) (h2 : q ≤ 1000000000) : okQ (redQ p q) = true ∧ vq (redQ p q) = (p : Rat) / (q : Rat) ∧ (redQ p q).p.natAbs ≤ p.natAbs ∧ (redQ p q).q.natAbs ≤ q.natAbs ∧ (redC p q) = 0 := by
  obtain ⟨a, ha, oa, va, k1, k2⟩ := mk_small (p := p) (q := q) (by omega) h1 (by omega)
  have e : redQ p q = a := (redQ_out (p, q)).trans (by rw [ha]; rfl)
  have e2 : redC p q = 0 := (redC_out (p, q)).trans (by rw [ha]; rfl)
  rw [e]
  exact ⟨oa, va, k1, k2, e2⟩
theorem nat_le_of {x : Int} {n : Nat} (h : -(n : Int) ≤ x) (k : x ≤ n) : x.natAbs ≤ n := by omega

end Go.Proofs.YtadliapkjijahaaGreatDoor
