/- Contracts whose answers are told ahead, and the contracts of a screw's law in these words; no condition. -/
import Derived.Test.YtmlnfabkfajefaaAb
import Derived.Test.YtmlnfabkfajefaaC1
import Derived.Test.YtmlnfabkfajefaaC2
import Derived.Test.YtmlnfabkfajefaaC3
import Derived.Test.YtmlnfabkfajefaaC4
import Derived.Test.YtmlnfabkfajefaaC5
import Derived.Test.YtmlnfabkfajefaaCL
import Derived.Test.YtmlnfabkfajefaaC6
import Derived.Test.YtmlnfabkfajefaaC7
import Derived.Test.YtmlnfabkfajefaaC8
import Derived.Test.YtmlnfabkfajefaaC9
import Derived.Test.YtmlnfabkfajefaaCO
import Derived.Test.YtmlnfabkfajefaaC10
import Derived.Test.YtmlnfabkfajefaaC11
import Derived.Test.YtmlnfabkfajefaaC12
import Derived.Test.YtmlnfabkfajefaaCN
import Derived.Test.YtmlnfabkfajefaaC14
import Derived.Test.YtmlnfabkfajefaaC24
import Derived.Test.YtmlnfabkfajefaaC25
import Derived.Test.YtmlnfabkfajefaaC27
import Derived.Test.YtmlnfabkfajefaaC30
import Derived.Test.YtmlnfabkfajefaaCK
import Derived.Test.YtmlnfabkfajefaaCG
import Derived.Test.YtmlnfabkfajefaaC35
import Derived.Test.YtmlnfabkfajefaaC36
import Derived.Test.YtmlnfabkfajefaaC37
import Derived.Test.YtmlnfabkfajefaaC38
import Derived.Test.YtmlnfabkfajefaaC70
import Derived.Test.YtmlnfabkfajefaaC71
import Derived.Test.YtmlnfabkfajefaaC72
import Derived.Test.YtmlnfabkfajefaaC73
import Derived.Test.YtmlnfabkfajefaaProg
set_option linter.unusedVariables false
set_option linter.unusedSimpArgs false
namespace Go.Proofs.Ytmlnfabkfajefaa
open Ab

/-! an answer that is told ahead -/
theorem Sp.told {α δ : Type} {A : ArgL α} {en : δ → Value} {out : α → δ} {f : FuncId} (hok : Sp.ok Try.prog f (Sp.pf A (fun _ => True) fun x => en (out x))) : Sp.ok Try.prog f (Sp.rf A (fun x (l : δ) _ => l = out x) (fun _ l => en l)) := by
  intro bs m E K hk
  refine hok bs m E K ?_
  simp only [Sp.rf] at hk
  simp only [Sp.pf]
  split at hk
  · split at hk
    · obtain ⟨l, hl, hk⟩ := hk
      rw [hl.out] at hk
      exact ⟨Side.mk trivial, hk⟩
    · cases hk
  · cases hk
theorem Sp.toldN {α δ : Type} {A : ArgL α} {en : δ → Value} {out : α → δ} {f : FuncId} (hok : Sp.ok Try.prog f (Sp.nf A (fun _ (_ : Unit) _ => True) (fun x _ (_ : Unit) => en (out x)) (fun _ _ _ _ _ => True))) : Sp.ok Try.prog f (Sp.nf A (fun x (l : δ) _ => l = out x) (fun _ l (_ : Unit) => en l) (fun _ _ _ _ _ => True)) := by
  intro bs m E K hk
  refine hok bs m E K ?_
  simp only [Sp.nf] at hk ⊢
  split at hk
  · split at hk
    · obtain ⟨l, hl, hk⟩ := hk
      rw [hl.out] at hk
      exact ⟨(), Side.mk trivial, fun y E' hq => hk y E' hq⟩
    · cases hk
  · cases hk
abbrev BV (b : Bool) : Value := .bool b
/-! small tests -/
abbrev bigSp : Sp := .pf FS (fun _ => True) (fun x => .bool (decide ((x.1.n : Int) > 4096)))
set_option maxRecDepth 100000 in
theorem big_ok : Sp.ok Try.prog 4 bigSp := by
  refine Sp.pf_ok (T := ⟨[], []⟩) follows eqok0 trivial [] Try.func4 rfl (by kernel_rfl) _ _ _ fun x E hp => ?_
  obtain ⟨⟨sa, n, c⟩, u⟩ := x
  (repeat' ((conv => whnf); (first | with_reducible apply And.intro | (with_reducible intro hh; first | (with_reducible have hx := NewRow.self hh; clear hx) | (with_reducible have hrow := Made.row hh; have hle := Made.le hh; have hmade := hh; clear hh) | (with_reducible have hrow := Fresh.rowS hh; have hle := Fresh.leS hh; have hfr := hh; clear hh) | (with_reducible have hx := Ext.self hh; clear hx) | (with_reducible have hx := SlV.self hh; clear hx) | (with_reducible have hx := Value.self hh; clear hx) | with_reducible cases hh | skip) | (with_reducible apply AllEq.mk; intro yy hq) | with_reducible apply trivial | with_reducible apply Exists.intro () | (with_reducible apply ex_side; (first | with_reducible assumption | with_reducible apply fracs1 | with_reducible apply fracs2 | with_reducible apply fracs3 | with_reducible apply spans1 | with_reducible apply spans2 | (with_reducible apply NewRow.keep; with_reducible assumption) | (with_reducible apply RowAt.keep; with_reducible assumption) | assumption | (focus ((repeat (first | with_reducible assumption | (with_reducible apply RowAt.le; rotate_left; with_reducible assumption) | (with_reducible apply RowB.le; rotate_left; with_reducible assumption))); done)))) | (with_reducible apply ex_side (a := (_, _)); (focus (with_reducible apply And.intro <;> (focus ((repeat (first | with_reducible assumption | (with_reducible apply RowAt.le; rotate_left; with_reducible assumption) | (with_reducible apply RowB.le; rotate_left; with_reducible assumption))); done))))))); (all_goals (conv => whnf)))
  (all_goals (try dsimp only [Q.eta, Sn.eta, SlV.eta] at *)); (all_goals (first | exact Side.mk trivial | with_reducible exact Side.mk rfl | exact Side.mk (fun _ _ h => h) | exact Side.mk (Made.le (by assumption)) | refine Side.mk ?_ | refine Don.mk ?_ | skip))
  rfl
abbrev lessSp : Sp := .pf F2 (fun _ => True) (fun x => BV (lessB x.1 x.2.1))
set_option maxRecDepth 100000 in
theorem less_ok : Sp.ok Try.prog 13 lessSp := by
  refine Sp.pf_ok (T := ⟨[(36, cmpFSp)], []⟩) follows eqok0 ⟨enters Try.func36 rfl rfl, scmpF_ok, trivial⟩ [] Try.func13 rfl (by kernel_rfl) _ _ _ fun x E hp => ?_
  obtain ⟨⟨a, b⟩, ⟨c, d⟩, u⟩ := x
  (repeat' ((conv => whnf); (first | with_reducible apply And.intro | (with_reducible intro hh; first | (with_reducible have hx := NewRow.self hh; clear hx) | (with_reducible have hrow := Made.row hh; have hle := Made.le hh; have hmade := hh; clear hh) | (with_reducible have hrow := Fresh.rowS hh; have hle := Fresh.leS hh; have hfr := hh; clear hh) | (with_reducible have hx := Ext.self hh; clear hx) | (with_reducible have hx := SlV.self hh; clear hx) | (with_reducible have hx := Value.self hh; clear hx) | with_reducible cases hh | skip) | (with_reducible apply AllEq.mk; intro yy hq) | with_reducible apply trivial | with_reducible apply Exists.intro () | (with_reducible apply ex_side; (first | with_reducible assumption | with_reducible apply fracs1 | with_reducible apply fracs2 | with_reducible apply fracs3 | with_reducible apply spans1 | with_reducible apply spans2 | (with_reducible apply NewRow.keep; with_reducible assumption) | (with_reducible apply RowAt.keep; with_reducible assumption) | assumption | (focus ((repeat (first | with_reducible assumption | (with_reducible apply RowAt.le; rotate_left; with_reducible assumption) | (with_reducible apply RowB.le; rotate_left; with_reducible assumption))); done)))) | (with_reducible apply ex_side (a := (_, _)); (focus (with_reducible apply And.intro <;> (focus ((repeat (first | with_reducible assumption | (with_reducible apply RowAt.le; rotate_left; with_reducible assumption) | (with_reducible apply RowB.le; rotate_left; with_reducible assumption))); done))))))); (all_goals (conv => whnf)))
  (all_goals (try dsimp only [Q.eta, Sn.eta, SlV.eta] at *)); (all_goals (first | exact Side.mk trivial | with_reducible exact Side.mk rfl | exact Side.mk (fun _ _ h => h) | exact Side.mk (Made.le (by assumption)) | refine Side.mk ?_ | refine Don.mk ?_ | skip))
  all_goals (
    have hL : lessB ⟨a, b⟩ ⟨c, d⟩ = ((okQ ⟨a, b⟩ && okQ ⟨c, d⟩) && decide (cmpQ ⟨a, b⟩ ⟨c, d⟩ < 0)) := rfl
    show AV.v (Value.bool _) = AV.v (Value.bool (lessB ⟨a, b⟩ ⟨c, d⟩))
    rw [hL]
    by_cases h : (okQ ⟨a, b⟩ && okQ ⟨c, d⟩) = true
    · rw [h] at hh ⊢
      first
        | (exfalso; simp at hh; done)
        | simp
    · rw [show (okQ ⟨a, b⟩ && okQ ⟨c, d⟩) = false by simpa using h] at hh ⊢
      first
        | (exfalso; simp at hh; done)
        | simp)
/-! the operations -/
def addR (a b : Q) : Q × Int := if okQ a && okQ b then (redQ (opAdd a b).1 (opAdd a b).2, redC (opAdd a b).1 (opAdd a b).2) else (⟨0, 0⟩, 1)
def subR (a b : Q) : Q × Int := if okQ a && okQ b then (redQ (opSub a b).1 (opSub a b).2, redC (opSub a b).1 (opSub a b).2) else (⟨0, 0⟩, 1)
def mulR (a b : Q) : Q × Int := if okQ a && okQ b then (redQ (opMul a b).1 (opMul a b).2, redC (opMul a b).1 (opMul a b).2) else (⟨0, 0⟩, 1)
theorem resQ_pair (ok : Bool) (n : Int × Int) : resQ ok n = RQ (if ok then (redQ n.1 n.2, redC n.1 n.2) else (⟨0, 0⟩, 1)) := by cases ok <;> rfl
theorem pair_some {n : Int × Int} {a : Q} (h : mkO n = some a) : (redQ n.1 n.2, redC n.1 n.2) = (a, 0) := by rw [red_out, h]; rfl
theorem addR_some {a b c : Q} (ha : okQ a = true) (hb : okQ b = true) (h : addO a b = some c) : (c, 0) = addR a b := by
  rw [add_def] at h
  unfold addR
  rw [ha, hb, if_pos (show (true && true) = true from rfl)]
  exact (pair_some (n := opAdd a b) h).symm
theorem subR_some {a b c : Q} (ha : okQ a = true) (hb : okQ b = true) (h : subO a b = some c) : (c, 0) = subR a b := by
  rw [sub_def] at h
  unfold subR
  rw [ha, hb, if_pos (show (true && true) = true from rfl)]
  exact (pair_some (n := opSub a b) h).symm
theorem mulR_some {a b c : Q} (ha : okQ a = true) (hb : okQ b = true) (h : mulO a b = some c) : (c, 0) = mulR a b := by
  rw [mul_def] at h
  unfold mulR
  rw [ha, hb, if_pos (show (true && true) = true from rfl)]
  exact (pair_some (n := opMul a b) h).symm
theorem divR_some {a b c : Q} (ha : okQ a = true) (hb : okQ b = true) (hn : b.p ≠ 0) (h : divO a b = some c) : (c, 0) = divR a b := by
  rw [div_def hn] at h
  unfold divR
  rw [ha, hb, grd_yes (show (true && true) = true from rfl), grd_yes (by simp [hn])]
  exact (pair_some (n := opDiv a b) h).symm
abbrev saddTSp : Sp := .rf F2 (fun x (l : Q × Int) _ => l = addR x.1 x.2.1) (fun _ l => RQ l)
abbrev ssubTSp : Sp := .rf F2 (fun x (l : Q × Int) _ => l = subR x.1 x.2.1) (fun _ l => RQ l)
abbrev smulTSp : Sp := .rf F2 (fun x (l : Q × Int) _ => l = mulR x.1 x.2.1) (fun _ l => RQ l)
abbrev sdivTSp : Sp := .rf F2 (fun x (l : Q × Int) _ => l = divR x.1 x.2.1) (fun _ l => RQ l)
theorem saddT_ok : Sp.ok Try.prog 14 saddTSp := Sp.told (en := RQ) (sp_eq (pf_congr fun x => resQ_pair _ _) saddF_ok)
theorem ssubT_ok : Sp.ok Try.prog 12 ssubTSp := Sp.told (en := RQ) (sp_eq (pf_congr fun x => resQ_pair _ _) ssubF_ok)
theorem smulT_ok : Sp.ok Try.prog 20 smulTSp := Sp.told (en := RQ) (sp_eq (pf_congr fun x => resQ_pair _ _) smulF_ok)
theorem sdivT_ok : Sp.ok Try.prog 19 sdivTSp := Sp.told (en := RQ) sdivF_ok
abbrev lessTSp : Sp := .rf F2 (fun x (l : Bool) _ => l = lessB x.1 x.2.1) (fun _ l => BV l)
theorem lessT_ok : Sp.ok Try.prog 13 lessTSp := Sp.told (en := BV) less_ok
abbrev turnTSp : Sp := .rf XI (fun x (l : Spn × Int) _ => l = turnF x.1 x.2.1 x.2.2.1) (fun _ l => RX l)
abbrev readTSp : Sp := .rf XL (fun x (l : Q × Int) _ => l = readR x.1 x.2.1) (fun _ l => RQ l)
abbrev scrTSp : Sp := .rf M1 (fun x (l : Bool) _ => l = okM x.1) (fun _ l => BV l)
abbrev spinTSp : Sp := .rf XL (fun x (l : Bool) _ => l = okX x.1 x.2.1) (fun _ l => BV l)
theorem turnT_ok : Sp.ok Try.prog 7 turnTSp := Sp.told (en := RX) turnF_ok
theorem sturnT_ok : Sp.ok Try.prog 8 turnTSp := Sp.told (en := RX) sturnF_ok
theorem readT_ok : Sp.ok Try.prog 9 readTSp := Sp.told (en := RQ) read_ok
theorem scrT_ok : Sp.ok Try.prog 10 scrTSp := Sp.told (en := BV) scrV_ok
theorem spinT_ok : Sp.ok Try.prog 11 spinTSp := Sp.told (en := BV) spinV_ok
abbrev toTSp : Sp := .nf XQI (fun x (l : Spn × Int × Int) _ => l = toR x.1 x.2.1 x.2.2.1 x.2.2.2.1) (fun _ l (_ : Unit) => RT l) (fun _ _ _ _ _ => True)
abbrev stoTSp : Sp := .rf XQI (fun x (l : Spn × Int × Int) _ => l = toR x.1 x.2.1 x.2.2.1 x.2.2.2.1) (fun _ l => RT l)
abbrev plTSp : Sp := .nf XIL (fun x (l : Int × Int) _ => l = plR x.1 x.2.1 x.2.2.1) (fun _ l (_ : Unit) => RI l) (fun _ _ _ _ _ => True)
abbrev splTSp : Sp := .rf XIL (fun x (l : Int × Int) _ => l = plR x.1 x.2.1 x.2.2.1) (fun _ l => RI l)
theorem toT_ok : Sp.ok Try.prog 15 toTSp := Sp.toldN (α := Scr × Spn × Q × Int × Unit) (δ := Spn × Int × Int) (A := XQI) (en := RT) (out := fun x => toR x.1 x.2.1 x.2.2.1 x.2.2.2.1) (f := 15) to_ok
theorem stoT_ok : Sp.ok Try.prog 16 stoTSp := Sp.told (en := RT) sto_ok
theorem plT_ok : Sp.ok Try.prog 17 plTSp := Sp.toldN (α := Scr × Spn × Int × Unit) (δ := Int × Int) (A := XIL) (en := RI) (out := fun x => plR x.1 x.2.1 x.2.2.1) (f := 17) pl_ok
theorem splT_ok : Sp.ok Try.prog 18 splTSp := Sp.told (en := RI) spl_ok

end Go.Proofs.Ytmlnfabkfajefaa
