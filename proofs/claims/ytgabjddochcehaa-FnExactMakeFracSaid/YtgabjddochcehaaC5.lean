/- Contracts of both packages' exported functions on fractions, for all arguments; no condition. -/
import Derived.Test.YtgabjddochcehaaAb
import Derived.Test.YtgabjddochcehaaC1
import Derived.Test.YtgabjddochcehaaC2
import Derived.Test.YtgabjddochcehaaC3
import Derived.Test.YtgabjddochcehaaC4
import Derived.Test.YtgabjddochcehaaProg
set_option linter.unusedVariables false
set_option linter.unusedSimpArgs false
namespace Go.Proofs.Ytgabjddochcehaa
open Ab

def resQ (ok : Bool) (n : Int × Int) : Value := .tuple #[(if ok then redQ n.1 n.2 else ⟨0, 0⟩).v, .int .i64 (if ok then redC n.1 n.2 else 1)]
theorem allOk2 (a b : Q) : allOk [a, b] = (okQ a && okQ b) := by simp [allOk]
theorem allOk3 (a b c : Q) : allOk [a, b, c] = (okQ a && (okQ b && okQ c)) := by simp [allOk]
theorem resQ_bad {ok : Bool} {n : Int × Int} (h : (!ok) = true) : AV.v (.tuple #[.agg #[.int .i64 0, .int .i64 0], .int .i64 1]) = AV.v (resQ ok n) := by
  cases ok with
  | true => cases h
  | false => rfl
theorem resQ_one {ok : Bool} {n : Int × Int} {v : Value} (h : (!ok) = false) (hv : v = .tuple #[(if (false || !okR n.1 n.2) then (⟨0, 0⟩ : Q) else tolQ n.1 n.2).v, .int .i64 (if (false || !okR n.1 n.2) then 3 else 0)]) : AV.v v = AV.v (resQ ok n) := by
  cases ok with
  | false => cases h
  | true =>
    subst hv
    unfold resQ redQ redC tolQ
    cases okR n.1 n.2 <;> rfl
theorem code_ne (b : Bool) : ((if b = true then (0 : Int) else 1) != 0) = !b := by cases b <;> rfl
theorem resQ_bad' {ok : Bool} {n : Int × Int} (h : (!ok) = true) : AV.v (.tuple #[.agg #[.int .i64 0, .int .i64 0], .int .i64 (if ok = true then 0 else 1)]) = AV.v (resQ ok n) := by
  cases ok with
  | true => cases h
  | false => rfl
theorem resQ_sp {ok : Bool} {n : Int × Int} {v : Value} (h : (!ok) = false) (hv : v = .tuple #[(redQ n.1 n.2).v, .int .i64 (redC n.1 n.2)]) : AV.v v = AV.v (resQ ok n) := by
  cases ok with
  | false => cases h
  | true => subst hv; rfl
abbrev addFSp : Sp := .pf F2 (fun _ => True) (fun x => resQ (okQ x.1 && okQ x.2.1) (opAdd x.1 x.2.1))
set_option maxRecDepth 100000 in
theorem addF_ok : Sp.ok Try.prog 41 addFSp := by
  refine Sp.pf_ok (T := [(64, areSp), (81, addSp), (75, oneSp)]) follows eqok0 ⟨enters Try.func64 rfl rfl, are_ok, enters Try.func81 rfl rfl, add_ok, enters Try.func75 rfl rfl, one_ok, trivial⟩ [] Try.func41 rfl (by kernel_rfl) _ _ _ fun x E hp => ?_
  obtain ⟨⟨a, c⟩, ⟨d, e⟩, u⟩ := x
  (repeat' ((conv => whnf); (first | with_reducible apply And.intro | (with_reducible intro hh; first | (with_reducible have hx := NewRow.self hh; clear hx) | with_reducible cases hh | (with_reducible have hx := Ext.self_of hh; clear hx hh) | skip) | with_reducible apply trivial | with_reducible apply Exists.intro () | (with_reducible apply ex_side; (first | with_reducible assumption | with_reducible apply fracs1 | with_reducible apply fracs2 | with_reducible apply fracs3 | (with_reducible apply NewRow.keep; with_reducible assumption) | (with_reducible apply FracsAt.keep; with_reducible assumption) | assumption)))); (all_goals (conv => whnf)))
  (all_goals (try dsimp only at *)); (all_goals (first | exact Side.mk trivial | with_reducible exact Side.mk rfl | refine Side.mk ?_ | refine Don.mk ?_ | skip))
  all_goals simp only [allOk2] at *
  · exact resQ_bad hh
  · simpa using hh
  · exact resQ_one hh rfl
set_option maxRecDepth 100000 in
theorem saddF_ok : Sp.ok Try.prog 40 addFSp := by
  refine Sp.pf_ok (T := [(62, twoSp), (80, saddSp)]) follows eqok0 ⟨enters Try.func62 rfl rfl, two_ok, enters Try.func80 rfl rfl, sadd_ok, trivial⟩ [] Try.func40 rfl (by kernel_rfl) _ _ _ fun x E hp => ?_
  obtain ⟨⟨a, c⟩, ⟨d, e⟩, u⟩ := x
  (repeat' ((conv => whnf); (first | with_reducible apply And.intro | (with_reducible intro hh; first | (with_reducible have hx := NewRow.self hh; clear hx) | with_reducible cases hh | (with_reducible have hx := Ext.self_of hh; clear hx hh) | skip) | with_reducible apply trivial | with_reducible apply Exists.intro () | (with_reducible apply ex_side; (first | with_reducible assumption | with_reducible apply fracs1 | with_reducible apply fracs2 | with_reducible apply fracs3 | (with_reducible apply NewRow.keep; with_reducible assumption) | (with_reducible apply FracsAt.keep; with_reducible assumption) | assumption)))); (all_goals (conv => whnf)))
  (all_goals (try dsimp only at *)); (all_goals (first | exact Side.mk trivial | with_reducible exact Side.mk rfl | refine Side.mk ?_ | refine Don.mk ?_ | skip))
  all_goals simp only [code_ne] at *
  · exact resQ_bad' hh
  · simpa [F2ok] using hh
  · exact resQ_sp hh rfl
abbrev subFSp : Sp := .pf F2 (fun _ => True) (fun x => resQ (okQ x.1 && okQ x.2.1) (opSub x.1 x.2.1))
set_option maxRecDepth 100000 in
theorem subF_ok : Sp.ok Try.prog 45 subFSp := by
  refine Sp.pf_ok (T := [(64, areSp), (85, subSp), (75, oneSp)]) follows eqok0 ⟨enters Try.func64 rfl rfl, are_ok, enters Try.func85 rfl rfl, sub_ok, enters Try.func75 rfl rfl, one_ok, trivial⟩ [] Try.func45 rfl (by kernel_rfl) _ _ _ fun x E hp => ?_
  obtain ⟨⟨a, c⟩, ⟨d, e⟩, u⟩ := x
  (repeat' ((conv => whnf); (first | with_reducible apply And.intro | (with_reducible intro hh; first | (with_reducible have hx := NewRow.self hh; clear hx) | with_reducible cases hh | (with_reducible have hx := Ext.self_of hh; clear hx hh) | skip) | with_reducible apply trivial | with_reducible apply Exists.intro () | (with_reducible apply ex_side; (first | with_reducible assumption | with_reducible apply fracs1 | with_reducible apply fracs2 | with_reducible apply fracs3 | (with_reducible apply NewRow.keep; with_reducible assumption) | (with_reducible apply FracsAt.keep; with_reducible assumption) | assumption)))); (all_goals (conv => whnf)))
  (all_goals (try dsimp only at *)); (all_goals (first | exact Side.mk trivial | with_reducible exact Side.mk rfl | refine Side.mk ?_ | refine Don.mk ?_ | skip))
  all_goals simp only [allOk2] at *
  · exact resQ_bad hh
  · simpa using hh
  · exact resQ_one hh rfl
set_option maxRecDepth 100000 in
theorem ssubF_ok : Sp.ok Try.prog 44 subFSp := by
  refine Sp.pf_ok (T := [(62, twoSp), (84, ssubSp)]) follows eqok0 ⟨enters Try.func62 rfl rfl, two_ok, enters Try.func84 rfl rfl, ssub_ok, trivial⟩ [] Try.func44 rfl (by kernel_rfl) _ _ _ fun x E hp => ?_
  obtain ⟨⟨a, c⟩, ⟨d, e⟩, u⟩ := x
  (repeat' ((conv => whnf); (first | with_reducible apply And.intro | (with_reducible intro hh; first | (with_reducible have hx := NewRow.self hh; clear hx) | with_reducible cases hh | (with_reducible have hx := Ext.self_of hh; clear hx hh) | skip) | with_reducible apply trivial | with_reducible apply Exists.intro () | (with_reducible apply ex_side; (first | with_reducible assumption | with_reducible apply fracs1 | with_reducible apply fracs2 | with_reducible apply fracs3 | (with_reducible apply NewRow.keep; with_reducible assumption) | (with_reducible apply FracsAt.keep; with_reducible assumption) | assumption)))); (all_goals (conv => whnf)))
  (all_goals (try dsimp only at *)); (all_goals (first | exact Side.mk trivial | with_reducible exact Side.mk rfl | refine Side.mk ?_ | refine Don.mk ?_ | skip))
  all_goals simp only [code_ne] at *
  · exact resQ_bad' hh
  · simpa [F2ok] using hh
  · exact resQ_sp hh rfl
abbrev mulFSp : Sp := .pf F2 (fun _ => True) (fun x => resQ (okQ x.1 && okQ x.2.1) (opMul x.1 x.2.1))
set_option maxRecDepth 100000 in
theorem mulF_ok : Sp.ok Try.prog 43 mulFSp := by
  refine Sp.pf_ok (T := [(64, areSp), (83, mulSp), (75, oneSp)]) follows eqok0 ⟨enters Try.func64 rfl rfl, are_ok, enters Try.func83 rfl rfl, mul_ok, enters Try.func75 rfl rfl, one_ok, trivial⟩ [] Try.func43 rfl (by kernel_rfl) _ _ _ fun x E hp => ?_
  obtain ⟨⟨a, c⟩, ⟨d, e⟩, u⟩ := x
  (repeat' ((conv => whnf); (first | with_reducible apply And.intro | (with_reducible intro hh; first | (with_reducible have hx := NewRow.self hh; clear hx) | with_reducible cases hh | (with_reducible have hx := Ext.self_of hh; clear hx hh) | skip) | with_reducible apply trivial | with_reducible apply Exists.intro () | (with_reducible apply ex_side; (first | with_reducible assumption | with_reducible apply fracs1 | with_reducible apply fracs2 | with_reducible apply fracs3 | (with_reducible apply NewRow.keep; with_reducible assumption) | (with_reducible apply FracsAt.keep; with_reducible assumption) | assumption)))); (all_goals (conv => whnf)))
  (all_goals (try dsimp only at *)); (all_goals (first | exact Side.mk trivial | with_reducible exact Side.mk rfl | refine Side.mk ?_ | refine Don.mk ?_ | skip))
  all_goals simp only [allOk2] at *
  · exact resQ_bad hh
  · simpa using hh
  · exact resQ_one hh rfl
set_option maxRecDepth 100000 in
theorem smulF_ok : Sp.ok Try.prog 42 mulFSp := by
  refine Sp.pf_ok (T := [(62, twoSp), (82, smulSp)]) follows eqok0 ⟨enters Try.func62 rfl rfl, two_ok, enters Try.func82 rfl rfl, smul_ok, trivial⟩ [] Try.func42 rfl (by kernel_rfl) _ _ _ fun x E hp => ?_
  obtain ⟨⟨a, c⟩, ⟨d, e⟩, u⟩ := x
  (repeat' ((conv => whnf); (first | with_reducible apply And.intro | (with_reducible intro hh; first | (with_reducible have hx := NewRow.self hh; clear hx) | with_reducible cases hh | (with_reducible have hx := Ext.self_of hh; clear hx hh) | skip) | with_reducible apply trivial | with_reducible apply Exists.intro () | (with_reducible apply ex_side; (first | with_reducible assumption | with_reducible apply fracs1 | with_reducible apply fracs2 | with_reducible apply fracs3 | (with_reducible apply NewRow.keep; with_reducible assumption) | (with_reducible apply FracsAt.keep; with_reducible assumption) | assumption)))); (all_goals (conv => whnf)))
  (all_goals (try dsimp only at *)); (all_goals (first | exact Side.mk trivial | with_reducible exact Side.mk rfl | refine Side.mk ?_ | refine Don.mk ?_ | skip))
  all_goals simp only [code_ne] at *
  · exact resQ_bad' hh
  · simpa [F2ok] using hh
  · exact resQ_sp hh rfl
abbrev cmpFSp : Sp := .pf F2 (fun _ => True) (fun x => .tuple #[.int .i64 (if okQ x.1 && okQ x.2.1 then cmpQ x.1 x.2.1 else 0), .int .i64 (if okQ x.1 && okQ x.2.1 then 0 else 1)])
set_option maxRecDepth 100000 in
theorem cmpF_ok : Sp.ok Try.prog 28 cmpFSp := by
  refine Sp.pf_ok (T := [(64, areSp), (65, cmpSp)]) follows eqok0 ⟨enters Try.func64 rfl rfl, are_ok, enters Try.func65 rfl rfl, cmp_ok, trivial⟩ [] Try.func28 rfl (by kernel_rfl) _ _ _ fun x E hp => ?_
  obtain ⟨⟨a, c⟩, ⟨d, e⟩, u⟩ := x
  (repeat' ((conv => whnf); (first | with_reducible apply And.intro | (with_reducible intro hh; first | (with_reducible have hx := NewRow.self hh; clear hx) | with_reducible cases hh | (with_reducible have hx := Ext.self_of hh; clear hx hh) | skip) | with_reducible apply trivial | with_reducible apply Exists.intro () | (with_reducible apply ex_side; (first | with_reducible assumption | with_reducible apply fracs1 | with_reducible apply fracs2 | with_reducible apply fracs3 | (with_reducible apply NewRow.keep; with_reducible assumption) | (with_reducible apply FracsAt.keep; with_reducible assumption) | assumption)))); (all_goals (conv => whnf)))
  (all_goals (try dsimp only at *)); (all_goals (first | exact Side.mk trivial | with_reducible exact Side.mk rfl | refine Side.mk ?_ | refine Don.mk ?_ | skip))
  all_goals simp only [allOk2] at *
  · revert hh
    cases okQ ⟨a, c⟩ <;> cases okQ ⟨d, e⟩ <;> simp
  · simpa [F2ok] using hh
  · revert hh
    cases okQ ⟨a, c⟩ <;> cases okQ ⟨d, e⟩ <;> simp
set_option maxRecDepth 100000 in
theorem scmpF_ok : Sp.ok Try.prog 26 cmpFSp := by
  refine Sp.pf_ok (T := [(62, twoSp), (63, cmpSp)]) follows eqok0 ⟨enters Try.func62 rfl rfl, two_ok, enters Try.func63 rfl rfl, spcmp_ok, trivial⟩ [] Try.func26 rfl (by kernel_rfl) _ _ _ fun x E hp => ?_
  obtain ⟨⟨a, c⟩, ⟨d, e⟩, u⟩ := x
  (repeat' ((conv => whnf); (first | with_reducible apply And.intro | (with_reducible intro hh; first | (with_reducible have hx := NewRow.self hh; clear hx) | with_reducible cases hh | (with_reducible have hx := Ext.self_of hh; clear hx hh) | skip) | with_reducible apply trivial | with_reducible apply Exists.intro () | (with_reducible apply ex_side; (first | with_reducible assumption | with_reducible apply fracs1 | with_reducible apply fracs2 | with_reducible apply fracs3 | (with_reducible apply NewRow.keep; with_reducible assumption) | (with_reducible apply FracsAt.keep; with_reducible assumption) | assumption)))); (all_goals (conv => whnf)))
  (all_goals (try dsimp only at *)); (all_goals (first | exact Side.mk trivial | with_reducible exact Side.mk rfl | refine Side.mk ?_ | refine Don.mk ?_ | skip))
  all_goals simp only [code_ne] at *
  · revert hh
    cases okQ ⟨a, c⟩ <;> cases okQ ⟨d, e⟩ <;> simp
  · simpa [F2ok] using hh
  · revert hh
    cases okQ ⟨a, c⟩ <;> cases okQ ⟨d, e⟩ <;> simp
abbrev RQ (r : Q × Int) : Value := .tuple #[r.1.v, .int .i64 r.2]
def makeR (p q : Int) : Q × Int := if withinB p (-1000000000000000000) 1000000000000000000 && withinB q (-1000000000000000000) 1000000000000000000 then (if q = 0 then (⟨0, 0⟩, 4) else (redQ p q, redC p q)) else (⟨0, 0⟩, 2)
abbrev makeFSp : Sp := .pf I2 (fun _ => True) (fun x => RQ (makeR x.1 x.2.1))
theorem within18 {p : Int} (h : withinB p (-1000000000000000000) 1000000000000000000 = true) : B4 p := by
  rw [within_iff] at h
  unfold B4
  omega
set_option maxRecDepth 100000 in
theorem makeF_ok : Sp.ok Try.prog 36 makeFSp := by
  refine Sp.pf_ok (T := [(49, withinSp), (76, toldSp), (75, oneSp)]) follows eqok0 ⟨enters Try.func49 rfl rfl, within_ok, enters Try.func76 rfl rfl, told_ok, enters Try.func75 rfl rfl, one_ok, trivial⟩ [] Try.func36 rfl (by kernel_rfl) _ _ _ fun x E hp => ?_
  obtain ⟨p, q, u⟩ := x
  (repeat' ((conv => whnf); (first | with_reducible apply And.intro | (with_reducible intro hh; first | (with_reducible have hx := NewRow.self hh; clear hx) | with_reducible cases hh | (with_reducible have hx := Ext.self_of hh; clear hx hh) | skip) | with_reducible apply trivial | with_reducible apply Exists.intro () | (with_reducible apply ex_side; (first | with_reducible assumption | with_reducible apply fracs1 | with_reducible apply fracs2 | with_reducible apply fracs3 | (with_reducible apply NewRow.keep; with_reducible assumption) | (with_reducible apply FracsAt.keep; with_reducible assumption) | assumption)))); (all_goals (conv => whnf)))
  (all_goals (try dsimp only at *)); (all_goals (first | exact Side.mk trivial | with_reducible exact Side.mk rfl | refine Side.mk ?_ | refine Don.mk ?_ | skip))
  · rename_i h1
    simp_all [makeR, Q.v]
  · rename_i h1 h2
    simp_all [makeR, Q.v]
  · rename_i h1 h2
    exact pq_of (by simpa using hh) (within18 (by simpa using h1)) (within18 (by simpa using h2))
  · rename_i h1 h2
    have h3 : q ≠ 0 := by simpa using hh
    simp only [makeR, redQ, redC, tolQ]
    by_cases hr : okR p q = true <;> simp_all [Q.v]
  · simp_all [makeR, Q.v]
set_option maxRecDepth 100000 in
theorem smakeF_ok : Sp.ok Try.prog 35 makeFSp := by
  refine Sp.pf_ok (T := [(73, withinSp), (74, reducedSp)]) follows eqok0 ⟨enters Try.func73 rfl rfl, in_ok, enters Try.func74 rfl rfl, reduced_ok, trivial⟩ [] Try.func35 rfl (by kernel_rfl) _ _ _ fun x E hp => ?_
  obtain ⟨p, q, u⟩ := x
  (repeat' ((conv => whnf); (first | with_reducible apply And.intro | (with_reducible intro hh; first | (with_reducible have hx := NewRow.self hh; clear hx) | with_reducible cases hh | (with_reducible have hx := Ext.self_of hh; clear hx hh) | skip) | with_reducible apply trivial | with_reducible apply Exists.intro () | (with_reducible apply ex_side; (first | with_reducible assumption | with_reducible apply fracs1 | with_reducible apply fracs2 | with_reducible apply fracs3 | (with_reducible apply NewRow.keep; with_reducible assumption) | (with_reducible apply FracsAt.keep; with_reducible assumption) | assumption)))); (all_goals (conv => whnf)))
  (all_goals (try dsimp only at *)); (all_goals (first | exact Side.mk trivial | with_reducible exact Side.mk rfl | refine Side.mk ?_ | refine Don.mk ?_ | skip))
  · rename_i h1
    simp_all [makeR, Q.v]
  · rename_i h1 h2
    simp_all [makeR, Q.v]
  · rename_i h1 h2
    exact ⟨by simpa using hh, within18 (by simpa using h1), within18 (by simpa using h2)⟩
  · rename_i h1 h2
    have h3 : q ≠ 0 := by simpa using hh
    simp_all [makeR, Q.v]
  · simp_all [makeR, Q.v]

end Go.Proofs.Ytgabjddochcehaa
