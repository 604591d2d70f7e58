/- What the operations come to, with an option for what is no valid fraction, and the contracts of the operations, of screws and of spindles in these words; conditions: the bounds that each names. -/
import Derived.Test.YtadliapkjijahaaGreatDoorAb
import Derived.Test.YtadliapkjijahaaGreatDoorC1
import Derived.Test.YtadliapkjijahaaGreatDoorC2
import Derived.Test.YtadliapkjijahaaGreatDoorC3
import Derived.Test.YtadliapkjijahaaGreatDoorC4
import Derived.Test.YtadliapkjijahaaGreatDoorC5
import Derived.Test.YtadliapkjijahaaGreatDoorCL
import Derived.Test.YtadliapkjijahaaGreatDoorC6
import Derived.Test.YtadliapkjijahaaGreatDoorC7
import Derived.Test.YtadliapkjijahaaGreatDoorC8
import Derived.Test.YtadliapkjijahaaGreatDoorProg
set_option linter.unusedVariables false
set_option linter.unusedSimpArgs false
namespace Go.Proofs.YtadliapkjijahaaGreatDoor
open Ab

/-! options in the place of codes -/
def mkO (n : Int × Int) : Option Q := if okR n.1 n.2 then some (nrm n.1 n.2) else none
def addO (a b : Q) : Option Q := mkO (opAdd a b)
def subO (a b : Q) : Option Q := mkO (opSub a b)
def mulO (a b : Q) : Option Q := mkO (opMul a b)
def divO (a b : Q) : Option Q := if b.p = 0 then none else mkO (opDiv a b)
def outO (o : Option Q) : Q × Int := match o with
  | some a => (a, 0)
  | none => (⟨0, 0⟩, 3)
def tolO (o : Option Q) : Q := match o with
  | some a => a
  | none => ⟨0, 1⟩
theorem outO_ne (o : Option Q) : ((outO o).2 != 0) = o.isNone := by cases o <;> rfl
theorem outO_eq (o : Option Q) : ((outO o).2 == 0) = o.isSome := by cases o <;> rfl
theorem outO_some (a : Q) : outO (some a) = (a, 0) := rfl
theorem outO_none : outO none = (⟨0, 0⟩, 3) := rfl
theorem tolO_some (a : Q) : tolO (some a) = a := rfl
theorem tolO_none : tolO none = ⟨0, 1⟩ := rfl
theorem red_out (n : Int × Int) : (redQ n.1 n.2, redC n.1 n.2) = outO (mkO n) := by
  unfold redQ redC mkO
  split <;> rfl
theorem redQ_out (n : Int × Int) : redQ n.1 n.2 = (outO (mkO n)).1 := by rw [← red_out]
theorem redC_out (n : Int × Int) : redC n.1 n.2 = (outO (mkO n)).2 := by rw [← red_out]
theorem tolQ_tol (n : Int × Int) : tolQ n.1 n.2 = tolO (mkO n) := by
  unfold tolQ mkO
  split <;> rfl
theorem okR_none (n : Int × Int) : (!okR n.1 n.2) = (mkO n).isNone := by
  unfold mkO
  cases okR n.1 n.2 <;> rfl
theorem divQ_tol (a b : Q) : divQ a b = tolO (divO a b) := by
  unfold divQ divO
  split
  · rfl
  · exact tolQ_tol _
theorem divBad_none (a b : Q) : divBad a b = (divO a b).isNone := by
  unfold divBad divO
  split
  · rfl
  · exact okR_none _
theorem mkO_ok {n : Int × Int} {a : Q} (h : mkO n = some a) : okQ a = true := by
  unfold mkO okR at h
  split at h
  · rename_i h1
    cases h
    exact h1
  · cases h
theorem okQ_zero : okQ ⟨0, 1⟩ = true := by decide
theorem tolO_mk (n : Int × Int) : okQ (tolO (mkO n)) = true := by
  cases h : mkO n with
  | none => exact okQ_zero
  | some a => exact mkO_ok h
theorem divO_ok {a b c : Q} (h : divO a b = some c) : okQ c = true := by
  unfold divO at h
  split at h
  · cases h
  · exact mkO_ok h
theorem tolO_div (a b : Q) : okQ (tolO (divO a b)) = true := by
  cases h : divO a b with
  | none => exact okQ_zero
  | some a => exact divO_ok h
theorem tolO_add (a b : Q) : okQ (tolO (addO a b)) = true := tolO_mk _
theorem tolO_sub (a b : Q) : okQ (tolO (subO a b)) = true := tolO_mk _
theorem tolO_mul (a b : Q) : okQ (tolO (mulO a b)) = true := tolO_mk _
/-! the operations' contracts in these words -/
theorem sp_eq {f : FuncId} {a b : Sp} (h : a = b) (ok : Sp.ok Tryz.prog f a) : Sp.ok Tryz.prog f b := h ▸ ok
theorem pf_congr {α : Type} {A : ArgL α} {pre : α → Prop} {r r' : α → Value} (h : ∀ x, r x = r' x) : Sp.pf A pre r = Sp.pf A pre r' := by rw [funext h]
theorem sf_congr {σ α : Type} {S : ArgL σ} {t : TypeId} {A : ArgL α} {pre : σ → α → Prop} {r r' : σ → α → Value} {n n' : σ → α → σ} (h : ∀ s x, r s x = r' s x) (k : ∀ s x, n s x = n' s x) : Sp.sf S t A pre r n = Sp.sf S t A pre r' n' := by
  rw [funext fun s => funext fun x => h s x, funext fun s => funext fun x => k s x]
abbrev oaddSp : Sp := .pf F2 F2ok (fun x => RQ (outO (addO x.1 x.2.1)))
abbrev osubSp : Sp := .pf F2 F2ok (fun x => RQ (outO (subO x.1 x.2.1)))
abbrev omulSp : Sp := .pf F2 F2ok (fun x => RQ (outO (mulO x.1 x.2.1)))
abbrev odivSp : Sp := .pf F2 (fun x => F2ok x ∧ x.2.1.p ≠ 0) (fun x => RQ (outO (divO x.1 x.2.1)))
theorem oadd_ok : Sp.ok Tryz.prog 60 oaddSp := sp_eq (pf_congr (fun x => by rw [redQ_out, redC_out]; rfl) : saddSp = oaddSp) sadd_ok
theorem osub_ok : Sp.ok Tryz.prog 61 osubSp := sp_eq (pf_congr (fun x => by rw [redQ_out, redC_out]; rfl) : ssubSp = osubSp) ssub_ok
theorem omul_ok : Sp.ok Tryz.prog 62 omulSp := sp_eq (pf_congr (fun x => by rw [redQ_out, redC_out]; rfl) : smulSp = omulSp) smul_ok
abbrev taddSp : Sp := .sf SC 73 F2 (fun _ x => okQ x.1 = true ∧ okQ x.2.1 = true) (fun _ x => (tolO (addO x.1 x.2.1)).v) (fun s x => (s.1 || (addO x.1 x.2.1).isNone, ()))
abbrev tsubSp : Sp := .sf SC 73 F2 (fun _ x => okQ x.1 = true ∧ okQ x.2.1 = true) (fun _ x => (tolO (subO x.1 x.2.1)).v) (fun s x => (s.1 || (subO x.1 x.2.1).isNone, ()))
abbrev tmulSp : Sp := .sf SC 73 F2 (fun _ x => okQ x.1 = true ∧ okQ x.2.1 = true) (fun _ x => (tolO (mulO x.1 x.2.1)).v) (fun s x => (s.1 || (mulO x.1 x.2.1).isNone, ()))
abbrev tdivSp : Sp := .sf SC 73 F2 (fun _ x => F2ok x) (fun _ x => (tolO (divO x.1 x.2.1)).v) (fun s x => (s.1 || (divO x.1 x.2.1).isNone, ()))
theorem tadd_ok : Sp.ok Tryz.prog 50 taddSp := sp_eq (sf_congr (fun _ x => by rw [tolQ_tol]; rfl) (fun s x => by rw [okR_none]; rfl) : addSp = taddSp) add_ok
theorem tsub_ok : Sp.ok Tryz.prog 51 tsubSp := sp_eq (sf_congr (fun _ x => by rw [tolQ_tol]; rfl) (fun s x => by rw [okR_none]; rfl) : subSp = tsubSp) sub_ok
theorem tmul_ok : Sp.ok Tryz.prog 53 tmulSp := sp_eq (sf_congr (fun _ x => by rw [tolQ_tol]; rfl) (fun s x => by rw [okR_none]; rfl) : mulSp = tmulSp) mul_ok
theorem addO_ok {a b c : Q} (h : addO a b = some c) : okQ c = true := mkO_ok h
theorem subO_ok {a b c : Q} (h : subO a b = some c) : okQ c = true := mkO_ok h
theorem mulO_ok {a b c : Q} (h : mulO a b = some c) : okQ c = true := mkO_ok h
attribute [irreducible] mkO addO subO mulO divO tolO
/-! the same with names for what comes back -/
abbrev oaddqSp : Sp := .pq F2 F2ok RQ (fun x => outO (addO x.1 x.2.1))
abbrev osubqSp : Sp := .pq F2 F2ok RQ (fun x => outO (subO x.1 x.2.1))
abbrev omulqSp : Sp := .pq F2 F2ok RQ (fun x => outO (mulO x.1 x.2.1))
abbrev odivqSp : Sp := .pq F2 (fun x => F2ok x ∧ x.2.1.p ≠ 0) RQ (fun x => outO (divO x.1 x.2.1))
abbrev taddqSp : Sp := .sq SC 73 F2 (fun _ x => okQ x.1 = true ∧ okQ x.2.1 = true) Q.v (fun _ x => tolO (addO x.1 x.2.1)) (fun s x => (s.1 || (addO x.1 x.2.1).isNone, ()))
abbrev tsubqSp : Sp := .sq SC 73 F2 (fun _ x => okQ x.1 = true ∧ okQ x.2.1 = true) Q.v (fun _ x => tolO (subO x.1 x.2.1)) (fun s x => (s.1 || (subO x.1 x.2.1).isNone, ()))
abbrev tmulqSp : Sp := .sq SC 73 F2 (fun _ x => okQ x.1 = true ∧ okQ x.2.1 = true) Q.v (fun _ x => tolO (mulO x.1 x.2.1)) (fun s x => (s.1 || (mulO x.1 x.2.1).isNone, ()))
abbrev tdivqSp : Sp := .sq SC 73 F2 (fun _ x => F2ok x) Q.v (fun _ x => tolO (divO x.1 x.2.1)) (fun s x => (s.1 || (divO x.1 x.2.1).isNone, ()))
theorem oaddq_ok : Sp.ok Tryz.prog 60 oaddqSp := Sp.pq_ok oadd_ok
theorem osubq_ok : Sp.ok Tryz.prog 61 osubqSp := Sp.pq_ok osub_ok
theorem omulq_ok : Sp.ok Tryz.prog 62 omulqSp := Sp.pq_ok omul_ok
theorem taddq_ok : Sp.ok Tryz.prog 50 taddqSp := Sp.sq_ok tadd_ok
theorem tsubq_ok : Sp.ok Tryz.prog 51 tsubqSp := Sp.sq_ok tsub_ok
theorem tmulq_ok : Sp.ok Tryz.prog 53 tmulqSp := Sp.sq_ok tmul_ok
/-! screws -/
theorem okM_pitch {m : Scr} (h : okM m = true) : okQ m.pitch = true := by simp [okM, witQ] at h; exact h.1.1
theorem okM_play {m : Scr} (h : okM m = true) : okQ m.play = true := by simp [okM, witQ] at h; exact h.2.2.1
theorem okM_parts {m : Scr} (h : okM m = true) : 2 ≤ m.parts ∧ m.parts ≤ 100 := by
  simp only [okM, Bool.and_eq_true] at h
  exact within_iff.1 h.2.1
abbrev scrPSp : Sp := .hf scrL 999999 .nil (fun _ _ (_ : Unit) _ => True) (fun s _ _ => .bool (okM s))
abbrev scrVSp : Sp := .pf M1 (fun _ => True) (fun x => .bool (okM x.1))

end Go.Proofs.YtadliapkjijahaaGreatDoor
