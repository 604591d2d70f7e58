/- How the rows' arguments read in these words: screws, spindles, scales, disks, lists; no condition. -/
import Derived.Test.YtjibkphhlflpeaaAb
import Derived.Test.YtjibkphhlflpeaaC1
import Derived.Test.YtjibkphhlflpeaaC8
import Derived.Test.YtjibkphhlflpeaaC9
import Derived.Test.YtjibkphhlflpeaaProg
set_option linter.unusedVariables false
set_option linter.unusedSimpArgs false
namespace Go.Proofs.Ytjibkphhlflpeaa
open Ab

section
open Go.ChangeShapes Go.WideShapes Go.RowKit Go.Deep
/-- A spindle. -/
structure Spn where
  turned : Int
  pos : Q
deriving DecidableEq
def Spn.cells (m : Spn) : List Value := [.int .i64 m.turned, .int .i64 m.pos.p, .int .i64 m.pos.q]
def Spn.v (m : Spn) : Value := .agg #[.int .i64 m.turned, .int .i64 m.pos.p, .int .i64 m.pos.q]
def spnDec : List Value → Option Spn
  | [.int .i64 n, .int .i64 p, .int .i64 q] => some ⟨n, ⟨p, q⟩⟩
  | _ => none
theorem spnDec_ok {v : List Value} {x : Spn} (h : spnDec v = some x) : v = x.cells := by
  unfold spnDec at h
  split at h <;> simp_all
  subst h
  rfl
def spnL : ArgL Spn := ⟨Spn.cells, spnDec, fun h => spnDec_ok h⟩
def spnA : Arg Spn where
  enc := Spn.v
  dec | .agg cs => spnDec cs.toList
      | _ => none
  ok := by
    intro v x h
    split at h
    · have := spnDec_ok h
      unfold Spn.v Spn.cells at *
      rw [← this]
    · cases h
/-- A scale; its errors lie elsewhere. -/
structure Scl where
  unit : Q
  errs : SlV
def Scl.cells (m : Scl) : List Value := [.int .i64 m.unit.p, .int .i64 m.unit.q, .slice m.errs.a m.errs.n m.errs.c]
def Scl.v (m : Scl) : Value := .agg #[.int .i64 m.unit.p, .int .i64 m.unit.q, .slice m.errs.a m.errs.n m.errs.c]
def sclDec : List Value → Option Scl
  | [.int .i64 p, .int .i64 q, .slice a n c] => some ⟨⟨p, q⟩, ⟨a, n, c⟩⟩
  | _ => none
theorem sclDec_ok {v : List Value} {x : Scl} (h : sclDec v = some x) : v = x.cells := by
  unfold sclDec at h
  split at h <;> simp_all
  subst h
  rfl
def sclL : ArgL Scl := ⟨Scl.cells, sclDec, fun h => sclDec_ok h⟩
def sclA : Arg Scl where
  enc := Scl.v
  dec | .agg cs => sclDec cs.toList
      | _ => none
  ok := by
    intro v x h
    split at h
    · have := sclDec_ok h
      unfold Scl.v Scl.cells at *
      rw [← this]
    · cases h
/-- A disk; its faults lie elsewhere. -/
structure Dsk where
  fs : SlV
  east : Int
  north : Int
def Dsk.cells (m : Dsk) : List Value := [.slice m.fs.a m.fs.n m.fs.c, .int .i64 m.east, .int .i64 m.north]
def Dsk.v (m : Dsk) : Value := .agg #[.slice m.fs.a m.fs.n m.fs.c, .int .i64 m.east, .int .i64 m.north]
def dskDec : List Value → Option Dsk
  | [.slice a n c, .int .i64 p, .int .i64 q] => some ⟨⟨a, n, c⟩, p, q⟩
  | _ => none
theorem dskDec_ok {v : List Value} {x : Dsk} (h : dskDec v = some x) : v = x.cells := by
  unfold dskDec at h
  split at h <;> simp_all
  subst h
  rfl
def dskL : ArgL Dsk := ⟨Dsk.cells, dskDec, fun h => dskDec_ok h⟩
def dskA : Arg Dsk where
  enc := Dsk.v
  dec | .agg cs => dskDec cs.toList
      | _ => none
  ok := by
    intro v x h
    split at h
    · have := dskDec_ok h
      unfold Dsk.v Dsk.cells at *
      rw [← this]
    · cases h

variable {P : Program}
theorem each_i {H : Type} {enc : TypeId × Value → H} {w : World} {base : Nat} {spare : Nat → Bool} {held : Bool} {i : TypeId} {cs : List Value} (hi : P.underlying i = some (.int .i64)) {ts : List TypeId} (h : Each (LeafAt enc P w base spare held) (i :: ts) cs) :
    ∃ (n : Int) (r : List Value), cs = .int .i64 n :: r ∧ I64 n ∧ Each (LeafAt enc P w base spare held) ts r := by
  obtain ⟨v, r, rfl, h1, k1⟩ := h.cons
  obtain ⟨p, rfl, hp⟩ := leaf_int hi h1
  exact ⟨p, r, rfl, i64_of hp, k1⟩
theorem slice_leaf {H : Type} {enc : TypeId × Value → H} {w : World} {base : Nat} {spare : Nat → Bool} {held : Bool} {r : Reach} {b0 : Nat} {t e : TypeId} {v : Value} {d : DataW H} {p : List MemPlace} (ht : P.underlying t = some (.slice e)) (hv : Value.okWide P w r b0 t v) (h : DataW.Trod enc P w base spare held t v d p) : LeafAt enc P w base spare held t v := by
  obtain ⟨a, n, c, rfl⟩ := okWide_slice ht hv
  obtain ⟨f, h⟩ := h
  exact ⟨f, _, by simpa [Value.cells] using h⟩
/-- What is known of memory ahead of a call. -/
abbrev extOf (w : World) : Ext := ⟨fun a => w.cell? a, fun _ => none⟩
theorem rowAt_of {α : Type} {en : α → List Value} {c : Nat} {R : List Value → Prop} {W : α → Prop} (hR : ∀ vs, R vs → ∃ x, vs = en x ∧ W x) {w : World} {s : SlV} (h : RowOf R w c s) : ∃ l, RowAt en c s l (extOf w) ∧ ∀ x ∈ l, W x := by
  obtain ⟨h0, hm, h⟩ := h
  cases ha : s.a with
  | none => exact ⟨[], ⟨by simp [h0 ha], hm, fun _ => rfl, fun a h => by rw [ha] at h; cases h⟩, by simp⟩
  | some a =>
    have key : ∀ i : Fin s.n, ∃ x, W x ∧ ∀ j v, (en x)[j]? = some v → w.cell? (a.add (i.1 * c + j)) = some v := by
      intro i
      obtain ⟨vs, hr, hv⟩ := h a ha i.1 i.2
      obtain ⟨x, rfl, hx⟩ := hR vs hr
      exact ⟨x, hx, hv⟩
    obtain ⟨f, hf⟩ := Classical.axiomOfChoice key
    refine ⟨List.ofFn f, ⟨by simp, hm, fun h => (by rw [ha] at h; cases h), fun a' ha' i x hx j v hj => ?_⟩, fun x hx => ?_⟩
    · rw [ha] at ha'
      cases ha'
      rw [List.getElem?_ofFn] at hx
      split at hx
      · cases hx
        have := (hf ⟨i, by assumption⟩).2 j v hj
        show w.cell? _ = _
        rw [Go.Deep.add_add]
        exact this
      · cases hx
    · obtain ⟨i, rfl⟩ := List.mem_ofFn.1 hx
      exact (hf i).1
theorem opens_row {α : Type} {en : α → List Value} {W : α → Prop} (n c : Nat) {t e : TypeId} {ts : List TypeId} (ht : P.underlying t = some (.slice e)) (hb : leavesB P n e = true) (hl : leaves P n e = ts) (hc : P.cellsOf e = c)
    (hR : ∀ {H : Type} {enc : TypeId × Value → H} {w : World} {base : Nat} {spare : Nat → Bool} {held : Bool} (vs : List Value), Each (LeafAt enc P w base spare held) ts vs → ∃ x, vs = en x ∧ W x) :
    Opens P t .slice (fun s w => ∃ l, RowAt en c s l (extOf w) ∧ ∀ x ∈ l, W x) := by
  intro H enc w base spare held r b0 v d p hv h
  obtain ⟨s, rfl, hs⟩ := leaf_slice n ht hb (slice_leaf ht hv h)
  rw [hl, hc] at hs
  exact ⟨s, rfl, rowAt_of (fun vs hr => hR vs hr) hs⟩
theorem each_frac {i : TypeId} (hi : P.underlying i = some (.int .i64)) {H : Type} {enc : TypeId × Value → H} {w : World} {base : Nat} {spare : Nat → Bool} {held : Bool} (vs : List Value) (h : Each (LeafAt enc P w base spare held) [i, i] vs) : ∃ x : Q, vs = x.cells ∧ QW x := by
  obtain ⟨a, r, rfl, ha, k⟩ := each_q hi h
  obtain rfl := k.nil
  exact ⟨a, rfl, ha⟩
theorem each_span {i : TypeId} (hi : P.underlying i = some (.int .i64)) {H : Type} {enc : TypeId × Value → H} {w : World} {base : Nat} {spare : Nat → Bool} {held : Bool} (vs : List Value) (h : Each (LeafAt enc P w base spare held) [i, i, i, i] vs) : ∃ x : Sn, vs = x.cells ∧ QW x.lo ∧ QW x.hi := by
  obtain ⟨a, r, rfl, ha, k⟩ := each_q hi h
  obtain ⟨b, r, rfl, hb, k⟩ := each_q hi k
  obtain rfl := k.nil
  exact ⟨⟨a, b⟩, rfl, ha, hb⟩
theorem each_int {i : TypeId} (hi : P.underlying i = some (.int .i64)) {H : Type} {enc : TypeId × Value → H} {w : World} {base : Nat} {spare : Nat → Bool} {held : Bool} (vs : List Value) (h : Each (LeafAt enc P w base spare held) [i] vs) : ∃ x : Int, vs = [.int .i64 x] ∧ I64 x := by
  obtain ⟨a, r, rfl, ha, k⟩ := each_i hi h
  obtain rfl := k.nil
  exact ⟨a, rfl, ha⟩
def I16 (n : Int) : Prop := -32768 ≤ n ∧ n ≤ 32767
theorem each_i16 {i : TypeId} (hi : P.underlying i = some (.int .i16)) {H : Type} {enc : TypeId × Value → H} {w : World} {base : Nat} {spare : Nat → Bool} {held : Bool} (vs : List Value) (h : Each (LeafAt enc P w base spare held) [i] vs) : ∃ x : Int, vs = [.int .i16 x] ∧ I16 x := by
  obtain ⟨v, r, rfl, h1, k⟩ := h.cons
  obtain ⟨p, rfl, hp⟩ := leaf_int hi h1
  obtain rfl := k.nil
  refine ⟨p, rfl, ?_⟩
  simp [Lit.wf, IntKind.min, IntKind.max, IntKind.signed, IntKind.bits] at hp
  exact hp
theorem opens_scr {t i : TypeId} {fs : Array Field} (ht : P.underlying t = some (.struct fs)) (hb : leavesB P 3 t = true) (hl : leaves P 3 t = [i, i, i, i, i]) (hi : P.underlying i = some (.int .i64)) : Opens P t scrA (fun a _ => QW a.pitch ∧ I64 a.parts ∧ QW a.play) := by
  intro H enc w base spare held r b0 v d p hv h
  obtain ⟨cs, rfl, k0⟩ := open_struct_cells 3 ht hb hl hv h
  obtain ⟨a, r, hc, ha, k1⟩ := each_q hi k0
  obtain ⟨n, r, rfl, hn, k2⟩ := each_i hi k1
  obtain ⟨b, r, rfl, hb, k3⟩ := each_q hi k2
  obtain rfl := k3.nil
  exact ⟨⟨a, n, b⟩, by simp [scrA, scrDec, hc], ha, hn, hb⟩
theorem opens_spn {t i : TypeId} {fs : Array Field} (ht : P.underlying t = some (.struct fs)) (hb : leavesB P 3 t = true) (hl : leaves P 3 t = [i, i, i]) (hi : P.underlying i = some (.int .i64)) : Opens P t spnA (fun a _ => I64 a.turned ∧ QW a.pos) := by
  intro H enc w base spare held r b0 v d p hv h
  obtain ⟨cs, rfl, k0⟩ := open_struct_cells 3 ht hb hl hv h
  obtain ⟨n, r, hc, hn, k1⟩ := each_i hi k0
  obtain ⟨b, r, rfl, hb, k2⟩ := each_q hi k1
  obtain rfl := k2.nil
  exact ⟨⟨n, b⟩, by simp [spnA, spnDec, hc], hn, hb⟩
theorem opens_scl {t i l e : TypeId} {fs : Array Field} (ht : P.underlying t = some (.struct fs)) (hb : leavesB P 3 t = true) (hl : leaves P 3 t = [i, i, l]) (hi : P.underlying i = some (.int .i64)) (hle : P.underlying l = some (.slice e)) (hbe : leavesB P 2 e = true) (hlv : leaves P 2 e = [i, i]) (hc : P.cellsOf e = 2) :
    Opens P t sclA (fun a w => QW a.unit ∧ ∃ l, RowAt Q.cells 2 a.errs l (extOf w) ∧ ∀ x ∈ l, QW x) := by
  intro H enc w base spare held r b0 v d p hv h
  obtain ⟨cs, rfl, k0⟩ := open_struct_cells 3 ht hb hl hv h
  obtain ⟨a, r, hcs, ha, k1⟩ := each_q hi k0
  obtain ⟨u, r, rfl, h2, k2⟩ := k1.cons
  obtain rfl := k2.nil
  obtain ⟨s, rfl, hs⟩ := leaf_slice 2 hle hbe h2
  rw [hlv, hc] at hs
  exact ⟨⟨a, s⟩, by simp [sclA, sclDec, hcs, SlV.v], ha, rowAt_of (fun vs hr => each_frac hi vs hr) hs⟩
theorem opens_dsk {t i l e : TypeId} {fs : Array Field} (ht : P.underlying t = some (.struct fs)) (hb : leavesB P 3 t = true) (hl : leaves P 3 t = [l, i, i]) (hi : P.underlying i = some (.int .i64)) (hle : P.underlying l = some (.slice e)) (hbe : leavesB P 1 e = true) (hlv : leaves P 1 e = [e]) (hc : P.cellsOf e = 1) (he : P.underlying e = some (.int .i16)) :
    Opens P t dskA (fun a w => (∃ l, RowAt (fun n => [.int .i16 n]) 1 a.fs l (extOf w) ∧ ∀ x ∈ l, I16 x) ∧ I64 a.east ∧ I64 a.north) := by
  intro H enc w base spare held r b0 v d p hv h
  obtain ⟨cs, rfl, k0⟩ := open_struct_cells 3 ht hb hl hv h
  obtain ⟨u, r, hcs, h2, k1⟩ := k0.cons
  obtain ⟨a, r, rfl, ha, k2⟩ := each_i hi k1
  obtain ⟨b, r, rfl, hb, k3⟩ := each_i hi k2
  obtain rfl := k3.nil
  obtain ⟨s, rfl, hs⟩ := leaf_slice 1 hle hbe h2
  rw [hlv, hc] at hs
  exact ⟨⟨s, a, b⟩, by simp [dskA, dskDec, hcs, SlV.v], rowAt_of (fun vs hr => each_i16 he vs hr) hs, ha, hb⟩
end

end Go.Proofs.Ytjibkphhlflpeaa
