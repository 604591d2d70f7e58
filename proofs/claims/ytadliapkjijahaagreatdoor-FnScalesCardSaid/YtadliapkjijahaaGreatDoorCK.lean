/- What a call keeps of what was there; no condition. -/
import Derived.Test.YtadliapkjijahaaGreatDoorAb
import Derived.Test.YtadliapkjijahaaGreatDoorC1
import Derived.Test.YtadliapkjijahaaGreatDoorC2
import Derived.Test.YtadliapkjijahaaGreatDoorC3
import Derived.Test.YtadliapkjijahaaGreatDoorC4
import Derived.Test.YtadliapkjijahaaGreatDoorC10
import Derived.Test.YtadliapkjijahaaGreatDoorC12
import Derived.Test.YtadliapkjijahaaGreatDoorC24
import Derived.Test.YtadliapkjijahaaGreatDoorC25
import Derived.Test.YtadliapkjijahaaGreatDoorProg
import Derived.Shelf.Abstract
set_option linter.unusedVariables false
set_option linter.unusedSimpArgs false
namespace Go.Proofs.YtadliapkjijahaaGreatDoor
open Ab

open Go.Shelf Go.RowKit Go.Lib Go.Sort
structure Keeps (E E' : Ext) : Prop where
  le : Ext.le E E'
  keep : ∀ b p, E.own b = some p → E'.own b = some p ∧ ∀ a, a.block = b → E' a = E a
theorem Keeps.refl (E : Ext) : Keeps E E := ⟨fun _ _ h => h, fun b p h => ⟨h, fun _ _ => rfl⟩⟩
theorem Keeps.trans {E E1 E' : Ext} (h : Keeps E E1) (k : Keeps E1 E') : Keeps E E' := by
  refine ⟨Ext.le_trans h.le k.le, fun b p hb => ?_⟩
  obtain ⟨k1, k2⟩ := h.keep b p hb
  obtain ⟨k3, k4⟩ := k.keep b p k1
  exact ⟨k3, fun a ha => by rw [k4 a ha, k2 a ha]⟩
theorem Keeps.new {E : Ext} {cs : List Value} {e : TypeId} (r : NewRow E cs e) : Keeps E r.to :=
  ⟨r.le, fun b p hb => ⟨by rw [new_own' r (new_ne r hb)]; exact hb, fun a ha => new_at r (by rw [ha]; exact new_ne r hb)⟩⟩
theorem Rel.forget {w w' : World} {β β' : List Nat} {m' : Mem} {E E' : Ext} (h : Rel w β E β' m' E' w') (k : Keeps E E') : Rel w β E β' m' E w' :=
  ⟨fun _ _ _ h => h, h.os, h.tape, h.output, h.size, h.old, h.pre, h.nodup, h.len, h.blk, fun a v ha => h.ext a v (k.le _ _ ha), h.dom, fun a v ha _ _ => ha, fun b p hb => ⟨.inr (by rw [hb]; rfl), (h.own b p (k.keep b p hb).1).2⟩, h.glob⟩
/-- Rows that a call makes for itself alone need not be told. -/
theorem Sp.rf_of_nf {α γ δ : Type} {A : ArgL α} {R : α → γ → Ext → Prop} {res : α → γ → Value} {f : FuncId} (hok : Sp.ok Tryz.prog f (Sp.nf A R (fun x l (_ : δ) => res x l) (fun _ _ _ E E' => Keeps E E'))) : Sp.ok Tryz.prog f (Sp.rf A R res) := by
  intro bs m E K hk w β vs hR hl hv
  refine (hok bs m E (fun r m' E' => m' = m ∧ K r m E ∧ Keeps E E') ?_ w β vs hR hl hv).mono ?_
  · simp only [Sp.rf] at hk
    simp only [Sp.nf]
    split at hk
    · split at hk
      · obtain ⟨l, h1, h2⟩ := hk
        exact ⟨l, h1, fun y E' hq => ⟨by first | rfl | trivial, h2, hq⟩⟩
      · cases hk
    · cases hk
  · rintro e w' ⟨r, m', E', β', x, he, hc, hr, rfl, hk, hke⟩
    exact ⟨r, m', E, β', x, he, hc, Rel.forget hr hke, hk⟩
theorem Sp.pf_of_rf {α : Type} {A : ArgL α} {pre : α → Prop} {res : α → Value} {f : FuncId} (hok : Sp.ok Tryz.prog f (Sp.rf A (fun x (_ : Unit) _ => pre x) (fun x _ => res x))) : Sp.ok Tryz.prog f (Sp.pf A pre res) := by
  intro bs m E K hk
  refine hok bs m E K ?_
  simp only [Sp.pf] at hk
  simp only [Sp.rf]
  split at hk
  · split at hk
    · exact ⟨(), hk.1, hk.2⟩
    · cases hk
  · cases hk
theorem Sp.pf_of_nf {α δ : Type} {A : ArgL α} {pre : α → Prop} {res : α → Value} {f : FuncId} (hok : Sp.ok Tryz.prog f (Sp.nf A (fun x (_ : Unit) _ => pre x) (fun x _ (_ : δ) => res x) (fun _ _ _ E E' => Keeps E E'))) : Sp.ok Tryz.prog f (Sp.pf A pre res) := Sp.pf_of_rf (Sp.rf_of_nf hok)
/-- Blocks behind what is there turn nothing. -/
theorem Rel.grows {w0 w : World} {β0 β : List Nat} {m : Mem} {F0 E : Ext} (h : Rel w0 β0 F0 β m E w) (os : Array Obj) : Rel w0 β0 F0 β m E (grow w os) := by
  have hp : ∀ k, k < w.heap.size → (grow w os).heap[k]? = w.heap[k]? := fun k hk => Array.getElem?_append_left hk
  refine ⟨h.ge, h.os, h.tape, h.output, ?_, fun k hk hn ho => ?_, h.pre, h.nodup, h.len, fun i b c hi hc => ?_, fun a v ha => ?_, h.dom, h.le0, fun b p hb => ?_, h.glob⟩
  · have := h.size
    show _ ≤ (w.heap ++ os).size
    simp
    omega
  · rw [hp k (Nat.lt_of_lt_of_le hk h.size)]
    exact h.old k hk hn ho
  · rw [hp b (h.lt (List.mem_of_getElem? hi))]
    exact h.blk i b c hi hc
  · obtain ⟨h1, h2⟩ := h.ext a v ha
    exact ⟨(cell_of_block (hp _ (cell_lt h1))).trans h1, h2⟩
  · obtain ⟨g1, g2, cur, g3, g4⟩ := h.own b p hb
    exact ⟨g1, g2, cur, (hp b (h.own_lt hb)).trans g3, g4⟩

end Go.Proofs.YtadliapkjijahaaGreatDoor
