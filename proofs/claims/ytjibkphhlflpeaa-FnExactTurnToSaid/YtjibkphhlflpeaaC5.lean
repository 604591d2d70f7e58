/- Contracts of both packages' exported functions on fractions, for all arguments; no condition. -/
import Derived.Test.YtjibkphhlflpeaaAb
import Derived.Test.YtjibkphhlflpeaaC1
import Derived.Test.YtjibkphhlflpeaaC2
import Derived.Test.YtjibkphhlflpeaaC3
import Derived.Test.YtjibkphhlflpeaaC4
import Derived.Test.YtjibkphhlflpeaaProg
set_option linter.unusedVariables false
set_option linter.unusedSimpArgs false
namespace Go.Proofs.Ytjibkphhlflpeaa
open Ab

def resQ (ok : Bool) (n : Int × Int) : Value := .tuple #[(if ok then redQ n.1 n.2 else ⟨0, 0⟩).v, .int .i64 (if ok then redC n.1 n.2 else 1)]
/-- An answer behind a test: another code where the test says no. -/
def grd {α : Type} (z : α) (ok : Bool) (c : Int) (r : α × Int) : α × Int := if ok then r else (z, c)
theorem grd_yes {α : Type} {z : α} {ok : Bool} {c : Int} {r : α × Int} (h : ok = true) : grd z ok c r = r := by rw [h]; rfl
theorem grd_no {α : Type} {z : α} {ok : Bool} {c : Int} {r : α × Int} (h : ok = false) : grd z ok c r = (z, c) := by rw [h]; rfl
theorem not_t {b : Bool} (h : (!b) = true) : b = false := by cases b <;> simp_all
theorem not_f {b : Bool} (h : (!b) = false) : b = true := by cases b <;> simp_all
theorem allOk2 (a b : Q) : allOk [a, b] = (okQ a && okQ b) := by simp [allOk]
theorem allOk3 (a b c : Q) : allOk [a, b, c] = (okQ a && (okQ b && okQ c)) := by simp [allOk]
theorem resQ_bad {ok : Bool} {n : Int × Int} (h : (!ok) = true) : AV.v (.tuple #[.agg #[.int .i64 0, .int .i64 0], .int .i64 1]) = AV.v (resQ ok n) := by
  cases ok with
  | true => cases h
  | false => rfl
theorem resQ_one {ok : Bool} {n : Int × Int} {v : Value} (h : (!ok) = false) (hv : v = .tuple #[(if (false || !okR n.1 n.2) then (⟨0, 0⟩ : Q) else tolQ n.1 n.2).v, .int .i64 (if (false || !okR n.1 n.2) then 3 else 0)]) : AV.v v = AV.v (resQ ok n) := by
  cases ok with
  | false => cases h
  | true =>
    subst hv
    unfold resQ redQ redC tolQ
    cases okR n.1 n.2 <;> rfl
theorem code_ne (b : Bool) : ((if b = true then (0 : Int) else 1) != 0) = !b := by cases b <;> rfl
theorem resQ_bad' {ok : Bool} {n : Int × Int} (h : (!ok) = true) : AV.v (.tuple #[.agg #[.int .i64 0, .int .i64 0], .int .i64 (if ok = true then 0 else 1)]) = AV.v (resQ ok n) := by
  cases ok with
  | true => cases h
  | false => rfl
theorem resQ_sp {ok : Bool} {n : Int × Int} {v : Value} (h : (!ok) = false) (hv : v = .tuple #[(redQ n.1 n.2).v, .int .i64 (redC n.1 n.2)]) : AV.v v = AV.v (resQ ok n) := by
  cases ok with
  | false => cases h
  | true => subst hv; rfl
abbrev addFSp : Sp := .pf F2 (fun _ => True) (fun x => resQ (okQ x.1 && okQ x.2.1) (opAdd x.1 x.2.1))
abbrev subFSp : Sp := .pf F2 (fun _ => True) (fun x => resQ (okQ x.1 && okQ x.2.1) (opSub x.1 x.2.1))
abbrev mulFSp : Sp := .pf F2 (fun _ => True) (fun x => resQ (okQ x.1 && okQ x.2.1) (opMul x.1 x.2.1))
abbrev cmpFSp : Sp := .pf F2 (fun _ => True) (fun x => .tuple #[.int .i64 (if okQ x.1 && okQ x.2.1 then cmpQ x.1 x.2.1 else 0), .int .i64 (if okQ x.1 && okQ x.2.1 then 0 else 1)])
abbrev RQ (r : Q × Int) : Value := .tuple #[r.1.v, .int .i64 r.2]
def makeR (p q : Int) : Q × Int := if withinB p (-1000000000000000000) 1000000000000000000 && withinB q (-1000000000000000000) 1000000000000000000 then (if q = 0 then (⟨0, 0⟩, 4) else (redQ p q, redC p q)) else (⟨0, 0⟩, 2)
abbrev makeFSp : Sp := .pf I2 (fun _ => True) (fun x => RQ (makeR x.1 x.2.1))
theorem within18 {p : Int} (h : withinB p (-1000000000000000000) 1000000000000000000 = true) : B4 p := by
  rw [within_iff] at h
  unfold B4
  omega
def divR (a b : Q) : Q × Int := grd ⟨0, 0⟩ (okQ a && okQ b) 1 (grd ⟨0, 0⟩ (!(b.p == 0)) 4 (redQ (opDiv a b).1 (opDiv a b).2, redC (opDiv a b).1 (opDiv a b).2))
abbrev divFSp : Sp := .pf F2 (fun _ => True) (fun x => RQ (divR x.1 x.2.1))
theorem one_red {n : Int × Int} : ((if (false || !okR n.1 n.2) then (⟨0, 0⟩ : Q) else tolQ n.1 n.2), (if (false || !okR n.1 n.2) then (3 : Int) else 0)) = (redQ n.1 n.2, redC n.1 n.2) := by
  unfold redQ redC tolQ
  by_cases h : okR n.1 n.2 = true <;> simp [h]
theorem one_end {n : Int × Int} {r : Q × Int} {v : Value} (hr : r = (redQ n.1 n.2, redC n.1 n.2)) (hv : v = RQ ((if (false || !okR n.1 n.2) then (⟨0, 0⟩ : Q) else tolQ n.1 n.2), (if (false || !okR n.1 n.2) then (3 : Int) else 0))) : AV.v v = AV.v (RQ r) := by
  rw [hv, one_red, hr]
theorem one_gen {b : Bool} {t : Q} {r : Q × Int} {v : Value} (h : r = if b = true then (⟨0, 0⟩, 3) else (t, 0)) (hv : v = RQ ((if b = true then (⟨0, 0⟩ : Q) else t), (if b = true then (3 : Int) else 0))) : AV.v v = AV.v (RQ r) := by
  rw [hv, h]
  by_cases hb : b = true <;> simp [hb]

end Go.Proofs.Ytjibkphhlflpeaa
