/- What the operations come to, with an option for what is no valid fraction, and the contracts of the operations, of screws and of spindles in these words; conditions: the bounds that each names. -/
import Derived.Test.YtjibkphhlflpeaaAb
import Derived.Test.YtjibkphhlflpeaaC1
import Derived.Test.YtjibkphhlflpeaaC2
import Derived.Test.YtjibkphhlflpeaaC3
import Derived.Test.YtjibkphhlflpeaaC4
import Derived.Test.YtjibkphhlflpeaaC5
import Derived.Test.YtjibkphhlflpeaaCL
import Derived.Test.YtjibkphhlflpeaaC6
import Derived.Test.YtjibkphhlflpeaaC7
import Derived.Test.YtjibkphhlflpeaaC8
import Derived.Test.YtjibkphhlflpeaaProg
set_option linter.unusedVariables false
set_option linter.unusedSimpArgs false
namespace Go.Proofs.Ytjibkphhlflpeaa
open Ab

/-! options in the place of codes -/
def mkO (n : Int × Int) : Option Q := if okR n.1 n.2 then some (nrm n.1 n.2) else none
def addO (a b : Q) : Option Q := mkO (opAdd a b)
def subO (a b : Q) : Option Q := mkO (opSub a b)
def mulO (a b : Q) : Option Q := mkO (opMul a b)
def divO (a b : Q) : Option Q := if b.p = 0 then none else mkO (opDiv a b)
def outO (o : Option Q) : Q × Int := match o with
  | some a => (a, 0)
  | none => (⟨0, 0⟩, 3)
def tolO (o : Option Q) : Q := match o with
  | some a => a
  | none => ⟨0, 1⟩
theorem outO_ne (o : Option Q) : ((outO o).2 != 0) = o.isNone := by cases o <;> rfl
theorem outO_eq (o : Option Q) : ((outO o).2 == 0) = o.isSome := by cases o <;> rfl
theorem outO_some (a : Q) : outO (some a) = (a, 0) := rfl
theorem outO_none : outO none = (⟨0, 0⟩, 3) := rfl
theorem tolO_some (a : Q) : tolO (some a) = a := rfl
theorem tolO_none : tolO none = ⟨0, 1⟩ := rfl
theorem red_out (n : Int × Int) : (redQ n.1 n.2, redC n.1 n.2) = outO (mkO n) := by
  unfold redQ redC mkO
  split <;> rfl
theorem redQ_out (n : Int × Int) : redQ n.1 n.2 = (outO (mkO n)).1 := by rw [← red_out]
theorem redC_out (n : Int × Int) : redC n.1 n.2 = (outO (mkO n)).2 := by rw [← red_out]
theorem tolQ_tol (n : Int × Int) : tolQ n.1 n.2 = tolO (mkO n) := by
  unfold tolQ mkO
  split <;> rfl
theorem okR_none (n : Int × Int) : (!okR n.1 n.2) = (mkO n).isNone := by
  unfold mkO
  cases okR n.1 n.2 <;> rfl
theorem divQ_tol (a b : Q) : divQ a b = tolO (divO a b) := by
  unfold divQ divO
  split
  · rfl
  · exact tolQ_tol _
theorem divBad_none (a b : Q) : divBad a b = (divO a b).isNone := by
  unfold divBad divO
  split
  · rfl
  · exact okR_none _
theorem mkO_ok {n : Int × Int} {a : Q} (h : mkO n = some a) : okQ a = true := by
  unfold mkO okR at h
  split at h
  · rename_i h1
    cases h
    exact h1
  · cases h
theorem okQ_zero : okQ ⟨0, 1⟩ = true := by decide
theorem tolO_mk (n : Int × Int) : okQ (tolO (mkO n)) = true := by
  cases h : mkO n with
  | none => exact okQ_zero
  | some a => exact mkO_ok h
theorem divO_ok {a b c : Q} (h : divO a b = some c) : okQ c = true := by
  unfold divO at h
  split at h
  · cases h
  · exact mkO_ok h
theorem tolO_div (a b : Q) : okQ (tolO (divO a b)) = true := by
  cases h : divO a b with
  | none => exact okQ_zero
  | some a => exact divO_ok h
theorem tolO_add (a b : Q) : okQ (tolO (addO a b)) = true := tolO_mk _
theorem tolO_sub (a b : Q) : okQ (tolO (subO a b)) = true := tolO_mk _
theorem tolO_mul (a b : Q) : okQ (tolO (mulO a b)) = true := tolO_mk _
/-! the operations' contracts in these words -/
theorem sp_eq {f : FuncId} {a b : Sp} (h : a = b) (ok : Sp.ok Try.prog f a) : Sp.ok Try.prog f b := h ▸ ok
theorem pf_congr {α : Type} {A : ArgL α} {pre : α → Prop} {r r' : α → Value} (h : ∀ x, r x = r' x) : Sp.pf A pre r = Sp.pf A pre r' := by rw [funext h]
theorem sf_congr {σ α : Type} {S : ArgL σ} {t : TypeId} {A : ArgL α} {pre : σ → α → Prop} {r r' : σ → α → Value} {n n' : σ → α → σ} (h : ∀ s x, r s x = r' s x) (k : ∀ s x, n s x = n' s x) : Sp.sf S t A pre r n = Sp.sf S t A pre r' n' := by
  rw [funext fun s => funext fun x => h s x, funext fun s => funext fun x => k s x]
abbrev oaddSp : Sp := .pf F2 F2ok (fun x => RQ (outO (addO x.1 x.2.1)))
abbrev osubSp : Sp := .pf F2 F2ok (fun x => RQ (outO (subO x.1 x.2.1)))
abbrev omulSp : Sp := .pf F2 F2ok (fun x => RQ (outO (mulO x.1 x.2.1)))
abbrev odivSp : Sp := .pf F2 (fun x => F2ok x ∧ x.2.1.p ≠ 0) (fun x => RQ (outO (divO x.1 x.2.1)))
theorem oadd_ok : Sp.ok Try.prog 52 oaddSp := sp_eq (pf_congr (fun x => by rw [redQ_out, redC_out]; rfl) : saddSp = oaddSp) sadd_ok
theorem osub_ok : Sp.ok Try.prog 40 osubSp := sp_eq (pf_congr (fun x => by rw [redQ_out, redC_out]; rfl) : ssubSp = osubSp) ssub_ok
theorem omul_ok : Sp.ok Try.prog 50 omulSp := sp_eq (pf_congr (fun x => by rw [redQ_out, redC_out]; rfl) : smulSp = omulSp) smul_ok
theorem pf_congr' {α : Type} {A : ArgL α} {pre : α → Prop} {r r' : α → Value} (h : ∀ x, pre x → r x = r' x) {f : FuncId} (ok : Sp.ok Try.prog f (Sp.pf A pre r)) : Sp.ok Try.prog f (Sp.pf A pre r') := by
  intro bs m E K hk
  refine ok bs m E K ?_
  simp only [Sp.pf] at hk ⊢
  split at hk
  · split at hk
    · exact ⟨hk.1, by rw [h _ hk.1.out]; exact hk.2⟩
    · cases hk
  · cases hk
theorem odiv_ok : Sp.ok Try.prog 51 odivSp := pf_congr' (fun x hx => by rw [redQ_out, redC_out]; simp only [divO, if_neg hx.2]) sdiv_ok
abbrev taddSp : Sp := .sf SC 67 F2 (fun _ x => okQ x.1 = true ∧ okQ x.2.1 = true) (fun _ x => (tolO (addO x.1 x.2.1)).v) (fun s x => (s.1 || (addO x.1 x.2.1).isNone, ()))
abbrev tsubSp : Sp := .sf SC 67 F2 (fun _ x => okQ x.1 = true ∧ okQ x.2.1 = true) (fun _ x => (tolO (subO x.1 x.2.1)).v) (fun s x => (s.1 || (subO x.1 x.2.1).isNone, ()))
abbrev tmulSp : Sp := .sf SC 67 F2 (fun _ x => okQ x.1 = true ∧ okQ x.2.1 = true) (fun _ x => (tolO (mulO x.1 x.2.1)).v) (fun s x => (s.1 || (mulO x.1 x.2.1).isNone, ()))
abbrev tdivSp : Sp := .sf SC 67 F2 (fun _ x => F2ok x) (fun _ x => (tolO (divO x.1 x.2.1)).v) (fun s x => (s.1 || (divO x.1 x.2.1).isNone, ()))
theorem tsub_ok : Sp.ok Try.prog 46 tsubSp := sp_eq (sf_congr (fun _ x => by rw [tolQ_tol]; rfl) (fun s x => by rw [okR_none]; rfl) : subSp = tsubSp) sub_ok
theorem tmul_ok : Sp.ok Try.prog 45 tmulSp := sp_eq (sf_congr (fun _ x => by rw [tolQ_tol]; rfl) (fun s x => by rw [okR_none]; rfl) : mulSp = tmulSp) mul_ok
theorem tdiv_ok : Sp.ok Try.prog 44 tdivSp := sp_eq (sf_congr (fun _ x => by rw [divQ_tol]) (fun s x => by rw [divBad_none]) : divSp = tdivSp) div_ok
theorem addO_ok {a b c : Q} (h : addO a b = some c) : okQ c = true := mkO_ok h
theorem subO_ok {a b c : Q} (h : subO a b = some c) : okQ c = true := mkO_ok h
theorem mulO_ok {a b c : Q} (h : mulO a b = some c) : okQ c = true := mkO_ok h
attribute [irreducible] mkO addO subO mulO divO tolO
/-! the same with names for what comes back -/
abbrev oaddqSp : Sp := .pq F2 F2ok RQ (fun x => outO (addO x.1 x.2.1))
abbrev osubqSp : Sp := .pq F2 F2ok RQ (fun x => outO (subO x.1 x.2.1))
abbrev omulqSp : Sp := .pq F2 F2ok RQ (fun x => outO (mulO x.1 x.2.1))
abbrev odivqSp : Sp := .pq F2 (fun x => F2ok x ∧ x.2.1.p ≠ 0) RQ (fun x => outO (divO x.1 x.2.1))
abbrev taddqSp : Sp := .sq SC 67 F2 (fun _ x => okQ x.1 = true ∧ okQ x.2.1 = true) Q.v (fun _ x => tolO (addO x.1 x.2.1)) (fun s x => (s.1 || (addO x.1 x.2.1).isNone, ()))
abbrev tsubqSp : Sp := .sq SC 67 F2 (fun _ x => okQ x.1 = true ∧ okQ x.2.1 = true) Q.v (fun _ x => tolO (subO x.1 x.2.1)) (fun s x => (s.1 || (subO x.1 x.2.1).isNone, ()))
abbrev tmulqSp : Sp := .sq SC 67 F2 (fun _ x => okQ x.1 = true ∧ okQ x.2.1 = true) Q.v (fun _ x => tolO (mulO x.1 x.2.1)) (fun s x => (s.1 || (mulO x.1 x.2.1).isNone, ()))
abbrev tdivqSp : Sp := .sq SC 67 F2 (fun _ x => F2ok x) Q.v (fun _ x => tolO (divO x.1 x.2.1)) (fun s x => (s.1 || (divO x.1 x.2.1).isNone, ()))
theorem oaddq_ok : Sp.ok Try.prog 52 oaddqSp := Sp.pq_ok oadd_ok
theorem osubq_ok : Sp.ok Try.prog 40 osubqSp := Sp.pq_ok osub_ok
theorem omulq_ok : Sp.ok Try.prog 50 omulqSp := Sp.pq_ok omul_ok
theorem odivq_ok : Sp.ok Try.prog 51 odivqSp := Sp.pq_ok odiv_ok
theorem tsubq_ok : Sp.ok Try.prog 46 tsubqSp := Sp.sq_ok tsub_ok
theorem tmulq_ok : Sp.ok Try.prog 45 tmulqSp := Sp.sq_ok tmul_ok
theorem tdivq_ok : Sp.ok Try.prog 44 tdivqSp := Sp.sq_ok tdiv_ok
/-! screws -/
theorem okM_pitch {m : Scr} (h : okM m = true) : okQ m.pitch = true := by simp [okM, witQ] at h; exact h.1.1
theorem okM_play {m : Scr} (h : okM m = true) : okQ m.play = true := by simp [okM, witQ] at h; exact h.2.2.1
theorem okM_parts {m : Scr} (h : okM m = true) : 2 ≤ m.parts ∧ m.parts ≤ 100 := by
  simp only [okM, Bool.and_eq_true] at h
  exact within_iff.1 h.2.1
abbrev scrPSp : Sp := .hf scrL 32 .nil (fun _ _ (_ : Unit) _ => True) (fun s _ _ => .bool (okM s))
set_option maxRecDepth 100000 in
theorem scrP_ok : Sp.ok Try.prog 27 scrPSp := by
  refine Sp.hf_ok (T := ⟨[(38, witSp), (14, withinSp), (20, validSp), (21, cmpSp)], []⟩) follows eqok0 ⟨enters Try.func38 rfl rfl, wit_ok, enters Try.func14 rfl rfl, in_ok, enters Try.func20 rfl rfl, spok_ok, enters Try.func21 rfl rfl, spcmp_ok, trivial⟩ [(1, .take 0 (.take 1 (.take 2 (.take 3 (.alt 4 (.take 5 (.take 6 (.take 7 (.take 8 (.take 9 (.alt 10 (.take 11 (.take 12 (.take 13 (.take 14 (.take 15 (.take 16 (.alt 17 (.take 18 (.take 19 (.take 20 (.take 21 (.take 22 (.take 23 (.take 24 (.take 25 (.take 26 (.take 27 (.take 28 (.take 29 (.take 30 (.take 31 (.take 32 (.take 33 (.take 34 (.take 35 (.alt 36 (.take 37 (.take 38 (.take 39 (.done)))) (.last)))))))))))))))))))) (.last)))))))) (.last))))))) (.last))))))] Try.func27 rfl (by kernel_rfl) _ _ _ _ _ fun s x l E hp => ?_
  obtain ⟨⟨a, b⟩, n, ⟨c, d⟩⟩ := s
  (repeat' ((conv => whnf); (first | with_reducible apply And.intro | (with_reducible intro hh; first | (with_reducible have hx := NewRow.self hh; clear hx) | (with_reducible have hrow := Made.row hh; have hle := Made.le hh; have hmade := hh; clear hh) | (with_reducible have hrow := Fresh.rowS hh; have hle := Fresh.leS hh; have hfr := hh; clear hh) | (with_reducible have hx := Ext.self hh; clear hx) | (with_reducible have hx := SlV.self hh; clear hx) | (with_reducible have hx := Value.self hh; clear hx) | with_reducible cases hh | skip) | (with_reducible apply AllEq.mk; intro yy hq) | with_reducible apply trivial | with_reducible apply Exists.intro () | (with_reducible apply ex_side; (first | with_reducible assumption | with_reducible apply fracs1 | with_reducible apply fracs2 | with_reducible apply fracs3 | with_reducible apply spans1 | with_reducible apply spans2 | (with_reducible apply NewRow.keep; with_reducible assumption) | (with_reducible apply RowAt.keep; with_reducible assumption) | assumption | (focus ((repeat (first | with_reducible assumption | (with_reducible apply RowAt.le; rotate_left; with_reducible assumption) | (with_reducible apply RowB.le; rotate_left; with_reducible assumption))); done)))) | (with_reducible apply ex_side (a := (_, _)); (focus (with_reducible apply And.intro <;> (focus ((repeat (first | with_reducible assumption | (with_reducible apply RowAt.le; rotate_left; with_reducible assumption) | (with_reducible apply RowB.le; rotate_left; with_reducible assumption))); done))))))); (all_goals (conv => whnf)))
  (all_goals (try dsimp only [Q.eta, Sn.eta, SlV.eta] at *)); (all_goals (first | exact Side.mk trivial | with_reducible exact Side.mk rfl | exact Side.mk (fun _ _ h => h) | exact Side.mk (Made.le (by assumption)) | refine Side.mk ?_ | refine Don.mk ?_ | skip))
  · rename_i h1 h2 h3
    simp only [witQ, Bool.and_eq_true] at h1
    exact ⟨h3, h1.1⟩
  all_goals exact ⟨by first | (simp_all [okM]; done) | (simp_all [okM]; omega), rfl⟩
abbrev scrVSp : Sp := .pf M1 (fun _ => True) (fun x => .bool (okM x.1))
set_option maxRecDepth 100000 in
theorem scrV_ok : Sp.ok Try.prog 30 (.pf M1 (fun _ => True) (fun x => .bool (okM x.1))) := by
  refine Sp.pf_ok (T := ⟨[(42, areSp), (43, wholeSp), (24, cmpSp), (17, withinSp)], []⟩) follows eqok0 ⟨enters Try.func42 rfl rfl, are_ok, enters Try.func43 rfl rfl, num_ok, enters Try.func24 rfl rfl, cmp_ok, enters Try.func17 rfl rfl, within_ok, trivial⟩ [(1, .take 0 (.take 1 (.take 2 (.take 3 (.alt 4 (.alt 5 (.take 6 (.take 7 (.take 8 (.take 9 (.take 10 (.take 11 (.take 12 (.take 13 (.take 14 (.alt 15 (.alt 16 (.take 17 (.take 18 (.take 19 (.take 20 (.take 21 (.alt 22 (.take 23 (.take 24 (.take 25 (.take 26 (.take 27 (.take 28 (.take 29 (.take 30 (.take 31 (.take 32 (.take 33 (.take 34 (.alt 35 (.take 36 (.take 37 (.take 38 (.done)))) (.last)))))))))))))) (.last))))))) (.last)) (.last))))))))))) (.last)) (.last))))))] Try.func30 rfl (by kernel_rfl) _ _ _ fun x E hp => ?_
  obtain ⟨⟨⟨a, b⟩, n, ⟨c, d⟩⟩, u⟩ := x
  (repeat' ((conv => whnf); (first | with_reducible apply And.intro | (with_reducible intro hh; first | (with_reducible have hx := NewRow.self hh; clear hx) | (with_reducible have hrow := Made.row hh; have hle := Made.le hh; have hmade := hh; clear hh) | (with_reducible have hrow := Fresh.rowS hh; have hle := Fresh.leS hh; have hfr := hh; clear hh) | (with_reducible have hx := Ext.self hh; clear hx) | (with_reducible have hx := SlV.self hh; clear hx) | (with_reducible have hx := Value.self hh; clear hx) | with_reducible cases hh | skip) | (with_reducible apply AllEq.mk; intro yy hq) | with_reducible apply trivial | with_reducible apply Exists.intro () | (with_reducible apply ex_side; (first | with_reducible assumption | with_reducible apply fracs1 | with_reducible apply fracs2 | with_reducible apply fracs3 | with_reducible apply spans1 | with_reducible apply spans2 | (with_reducible apply NewRow.keep; with_reducible assumption) | (with_reducible apply RowAt.keep; with_reducible assumption) | assumption | (focus ((repeat (first | with_reducible assumption | (with_reducible apply RowAt.le; rotate_left; with_reducible assumption) | (with_reducible apply RowB.le; rotate_left; with_reducible assumption))); done)))) | (with_reducible apply ex_side (a := (_, _)); (focus (with_reducible apply And.intro <;> (focus ((repeat (first | with_reducible assumption | (with_reducible apply RowAt.le; rotate_left; with_reducible assumption) | (with_reducible apply RowB.le; rotate_left; with_reducible assumption))); done))))))); (all_goals (conv => whnf)))
  (all_goals (try dsimp only [Q.eta, Sn.eta, SlV.eta] at *)); (all_goals (first | exact Side.mk trivial | with_reducible exact Side.mk rfl | exact Side.mk (fun _ _ h => h) | exact Side.mk (Made.le (by assumption)) | refine Side.mk ?_ | refine Don.mk ?_ | skip))
  all_goals simp only [allOk2, Bool.and_eq_true] at *
  · rename_i h1
    exact ⟨hh.1, okQ_whole (n := 100) (by decide)⟩
  · exact ⟨hh.2, hh.1⟩
  all_goals first | (simp_all [okM, witQ]; done) | (simp_all [okM, witQ]; omega)
abbrev toScrewSp : Sp := .pf M1 (fun _ => True) (fun x => x.1.v)
set_option maxRecDepth 100000 in
theorem toScrew_ok : Sp.ok Try.prog 6 toScrewSp := by
  refine Sp.pf_ok (T := ⟨[(10, toFracSp)], []⟩) follows eqok0 ⟨enters Try.func10 rfl rfl, toFrac_ok, trivial⟩ [] Try.func6 rfl (by kernel_rfl) _ _ _ fun x E hp => ?_
  obtain ⟨⟨⟨a, b⟩, n, ⟨c, d⟩⟩, u⟩ := x
  (repeat' ((conv => whnf); (first | with_reducible apply And.intro | (with_reducible intro hh; first | (with_reducible have hx := NewRow.self hh; clear hx) | (with_reducible have hrow := Made.row hh; have hle := Made.le hh; have hmade := hh; clear hh) | (with_reducible have hrow := Fresh.rowS hh; have hle := Fresh.leS hh; have hfr := hh; clear hh) | (with_reducible have hx := Ext.self hh; clear hx) | (with_reducible have hx := SlV.self hh; clear hx) | (with_reducible have hx := Value.self hh; clear hx) | with_reducible cases hh | skip) | (with_reducible apply AllEq.mk; intro yy hq) | with_reducible apply trivial | with_reducible apply Exists.intro () | (with_reducible apply ex_side; (first | with_reducible assumption | with_reducible apply fracs1 | with_reducible apply fracs2 | with_reducible apply fracs3 | with_reducible apply spans1 | with_reducible apply spans2 | (with_reducible apply NewRow.keep; with_reducible assumption) | (with_reducible apply RowAt.keep; with_reducible assumption) | assumption | (focus ((repeat (first | with_reducible assumption | (with_reducible apply RowAt.le; rotate_left; with_reducible assumption) | (with_reducible apply RowB.le; rotate_left; with_reducible assumption))); done)))) | (with_reducible apply ex_side (a := (_, _)); (focus (with_reducible apply And.intro <;> (focus ((repeat (first | with_reducible assumption | (with_reducible apply RowAt.le; rotate_left; with_reducible assumption) | (with_reducible apply RowB.le; rotate_left; with_reducible assumption))); done))))))); (all_goals (conv => whnf)))
  (all_goals (try dsimp only [Q.eta, Sn.eta, SlV.eta] at *)); (all_goals (first | exact Side.mk trivial | with_reducible exact Side.mk rfl | exact Side.mk (fun _ _ h => h) | exact Side.mk (Made.le (by assumption)) | refine Side.mk ?_ | refine Don.mk ?_ | skip))
  rfl

end Go.Proofs.Ytjibkphhlflpeaa
