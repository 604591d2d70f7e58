/- Contracts of the functions that repeat an element and that make even scales; conditions: the bounds that each names. -/
import Derived.Test.YtadliapkjijahaaGreatDoorAb
import Derived.Test.YtadliapkjijahaaGreatDoorC1
import Derived.Test.YtadliapkjijahaaGreatDoorC2
import Derived.Test.YtadliapkjijahaaGreatDoorC3
import Derived.Test.YtadliapkjijahaaGreatDoorC4
import Derived.Test.YtadliapkjijahaaGreatDoorC5
import Derived.Test.YtadliapkjijahaaGreatDoorCL
import Derived.Test.YtadliapkjijahaaGreatDoorC6
import Derived.Test.YtadliapkjijahaaGreatDoorC7
import Derived.Test.YtadliapkjijahaaGreatDoorC8
import Derived.Test.YtadliapkjijahaaGreatDoorC9
import Derived.Test.YtadliapkjijahaaGreatDoorCO
import Derived.Test.YtadliapkjijahaaGreatDoorC12
import Derived.Test.YtadliapkjijahaaGreatDoorC14
import Derived.Test.YtadliapkjijahaaGreatDoorC15
import Derived.Test.YtadliapkjijahaaGreatDoorC16
import Derived.Test.YtadliapkjijahaaGreatDoorC17
import Derived.Test.YtadliapkjijahaaGreatDoorC25
import Derived.Test.YtadliapkjijahaaGreatDoorC30
import Derived.Test.YtadliapkjijahaaGreatDoorProg
set_option linter.unusedVariables false
set_option linter.unusedSimpArgs false
namespace Go.Proofs.YtadliapkjijahaaGreatDoor
open Ab

def Arg.u64 : Arg Int where
  enc n := .int .u64 n
  dec | .int .u64 n => some n
      | _ => none
  ok := by intro v x h; split at h <;> simp_all
abbrev U2 : ArgL (Int × Int × Unit) := .cons Arg.u64 (.cons Arg.u64 .nil)
abbrev bmulSp : Sp := .pf U2 (fun x => x.1 = 1 ∧ 0 ≤ x.2.1 ∧ x.2.1 ≤ 60) (fun x => .tuple #[.int .u64 0, .int .u64 x.2.1])
theorem all61 (p : Int → Prop) (h : ∀ j : Fin 61, p ((j.1 : Nat) : Int)) (y : Int) (h0 : 0 ≤ y) (h1 : y ≤ 60) : p y := by
  have := h ⟨y.toNat, by omega⟩
  rwa [show ((y.toNat : Nat) : Int) = y by omega] at this
def bmA (a b : Int) : Int := IntKind.u64.wrap (((BitVec.ofInt IntKind.u64.bits a &&& BitVec.ofInt IntKind.u64.bits b).toNat : Nat) : Int)
def bmS (a : Int) : Int := a.fdiv (2 ^ min (Int.toNat 32) IntKind.u64.bits)
def bmM (a b : Int) : Int := IntKind.u64.wrap (a * b)
def bmP (a b : Int) : Int := IntKind.u64.wrap (a + b)
def bmT (y : Int) : Int := bmP (bmM (bmS 1) (bmA y 4294967295)) (bmS (bmM (bmA 1 4294967295) (bmA y 4294967295)))
def bm0 (y : Int) : Int := bmP (bmP (bmM (bmS 1) (bmS y)) (bmS (bmT y))) (bmS (bmP (bmA (bmT y) 4294967295) (bmM (bmA 1 4294967295) (bmS y))))
theorem tup_eq {a b c d : Int} (h : a = c) (k : b = d) : AV.v (.tuple #[.int .u64 a, .int .u64 b]) = AV.v (.tuple #[.int .u64 c, .int .u64 d]) := by rw [h, k]
abbrev repSp : Sp := .nf SI (fun x (q : Q) E => FracsAt x.1 [q] E ∧ 2 ≤ x.2.1 ∧ x.2.1 ≤ 60) (fun _ _ y => SlV.v y) (fun x q y E E' => Side (Fresh 25 2 Q.cells y (List.replicate x.2.1.toNat q) E E'))
/-- A row of which the first elements are one. -/
structure RepTo (b : Nat) (q : Q) (k : Nat) (E1 E' : Ext) : Prop where
  own : E'.own = E1.own
  other : ∀ a, a.block ≠ b → E' a = E1 a
  cells : ∀ j, j < k → E' ⟨b, j * 2, none⟩ = some (.int .i64 q.p) ∧ E' ⟨b, j * 2 + 1, none⟩ = some (.int .i64 q.q)
theorem q_cells_ok (q : Q) : ∀ u ∈ q.cells, cellOk u = true := by simp [Q.cells, cellOk]
theorem rep_flat (m : Nat) (q : Q) : ((List.replicate m q).flatMap Q.cells).length = m * 2 := by
  induction m with
  | zero => rfl
  | succ m ih => rw [List.replicate_succ, List.flatMap_cons, List.length_append, ih]; show 2 + m * 2 = _; omega
theorem RepTo.step {b : Nat} {q : Q} {k m : Nat} {E1 E' : Ext} (h : RepTo b q k E1 E') : RepTo b q (k + m) E1 (E'.upd b (k * 2) ((List.replicate m q).flatMap Q.cells)) := by
  have hl : ((List.replicate m q).flatMap Q.cells).length = m * 2 := by
    induction m with
    | zero => rfl
    | succ m ih => rw [List.replicate_succ, List.flatMap_cons, List.length_append, ih]; show 2 + m * 2 = _; omega
  refine ⟨h.own, fun a ha => (upd_other ha).trans (h.other a ha), fun j hj => ?_⟩
  by_cases hjk : j < k
  · obtain ⟨h1, h2⟩ := h.cells j hjk
    refine ⟨?_, ?_⟩
    · rw [upd_out (.inl (by omega))]; exact h1
    · rw [upd_out (.inl (by omega))]; exact h2
  · have hx : (List.replicate m q)[j - k]? = some q := by rw [List.getElem?_replicate, if_pos (by omega)]
    have g0 := flat_at (enc := Q.cells) (c := 2) (fun _ => rfl) hx (j := 0) rfl
    have g1 := flat_at (enc := Q.cells) (c := 2) (fun _ => rfl) hx (j := 1) rfl
    refine ⟨?_, ?_⟩
    · rw [upd_in (by omega) (by omega), show j * 2 - k * 2 = (j - k) * 2 + 0 by omega]; exact g0
    · rw [upd_in (by omega) (by omega), show j * 2 + 1 - k * 2 = (j - k) * 2 + 1 by omega]; exact g1
/-- What a new row comes to. -/
structure NewAt (E E1 : Ext) (b : Nat) (p : Nat × TypeId) : Prop where
  own : E1.own b = some p
  other : ∀ a v, E a = some v → a.block ≠ b ∧ E1 a = some v
  own' : ∀ b', b' ≠ b → E1.own b' = E.own b'
  at' : ∀ a, a.block ≠ b → E1 a = E a
  fresho : E.own b = none
theorem NewRow.newAt {E : Ext} {cs : List Value} {e : TypeId} (r : NewRow E cs e) {n : Nat} (h : cs.length = n) : NewAt E r.to r.b (n, e) := ⟨by rw [new_own, h], new_other r, fun _ h => new_own' r h, fun _ h => new_at r h, r.fresho⟩
theorem RepTo.done {E E1 E' : Ext} {b : Nat} {e : TypeId} {n : Nat} {q : Q} (r : NewAt E E1 b (n * 2, e)) (h : RepTo b q n E1 E') (hn : n ≤ maxLen) : Fresh e 2 Q.cells ⟨some ⟨b, 0, none⟩, n, n⟩ (List.replicate n q) E E' := by
  refine ⟨⟨by simp, hn, fun h => (by cases h), fun a ha i x hx j v hj => ?_⟩, fun a v ha => ?_, fun b' p hb => ?_, .inr ⟨b, rfl, ⟨_, by rw [h.own, r.own], Nat.le_refl _⟩, r.fresho, fun a v ha => (r.other a v ha).1⟩⟩
  · simp only [Option.some.injEq] at ha
    subst ha
    rw [List.getElem?_replicate] at hx
    split at hx
    · rename_i hi
      cases hx
      obtain ⟨g0, g1⟩ := h.cells i hi
      rw [Go.Deep.add_add, addr_add, Nat.zero_add]
      match j, hj with
      | 0, hj => cases hj; exact g0
      | 1, hj => cases hj; exact g1
    · cases hx
  · rw [h.other a (r.other a v ha).1]
    exact (r.other a v ha).2
  · have hne : b' ≠ b := fun e => by rw [e, r.fresho] at hb; cases hb
    exact ⟨by rw [h.own, r.own' b' hne]; exact hb, fun a ha => by rw [h.other a (by rw [ha]; exact hne), r.at' a (by rw [ha]; exact hne)]⟩
set_option maxHeartbeats 2000000 in
/-! even scales -/
def evR (u : Q) (n : Int) : (Q × List Q) × Int := if okQ u then (if witQ u 1000 && withinB n 2 60 then (if okC u (List.replicate n.toNat Q1) then ((u, List.replicate n.toNat Q1), 0) else ((Q0, []), 3)) else ((Q0, []), 2)) else ((Q0, []), 1)
theorem evR_1 {u : Q} {n : Int} (h : okQ u = false) : evR u n = ((Q0, []), 1) := by unfold evR; rw [if_neg (by simp [h])]
theorem evR_2 {u : Q} {n : Int} (h : okQ u = true) (h2 : (witQ u 1000 && withinB n 2 60) = false) : evR u n = ((Q0, []), 2) := by unfold evR; rw [if_pos h, if_neg (by simp [h2])]
theorem evR_3 {u : Q} {n : Int} (h : okQ u = true) (h2 : (witQ u 1000 && withinB n 2 60) = true) (h3 : okC u (List.replicate n.toNat Q1) = false) : evR u n = ((Q0, []), 3) := by unfold evR; rw [if_pos h, if_pos h2, if_neg (by simp [h3])]
theorem evR_4 {u : Q} {n : Int} (h : okQ u = true) (h2 : (witQ u 1000 && withinB n 2 60) = true) (h3 : okC u (List.replicate n.toNat Q1) = true) : evR u n = ((u, List.replicate n.toNat Q1), 0) := by unfold evR; rw [if_pos h, if_pos h2, if_pos h3]
abbrev QI1 : ArgL (Q × Int × Unit) := .cons .frac (.cons .int .nil)
abbrev RSc (u : Q) (y : SlV) (c : Int) : Value := .tuple #[Scl.v ⟨u, y⟩, .int .i64 c]
abbrev evSp : Sp := .nf QI1 (fun _ (_ : Unit) _ => True) (fun x _ (y : SlV) => RSc (evR x.1 x.2.1).1.1 y (evR x.1 x.2.1).2) (fun x _ y E E' => Side (Fresh 25 2 Q.cells y (evR x.1 x.2.1).1.2 E E'))
theorem unit_wit {u : Q} (h : okQ u = true) : (decide (u.p > 0) && decide (cmpQ u ⟨1000, 1⟩ ≤ 0)) = witQ u 1000 := by
  unfold witQ
  rw [h]
  rfl

end Go.Proofs.YtadliapkjijahaaGreatDoor
