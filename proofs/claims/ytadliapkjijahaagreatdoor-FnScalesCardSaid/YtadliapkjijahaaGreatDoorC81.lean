/- The contracts of scales in words that tell the answers ahead; no condition. -/
import Derived.Test.YtadliapkjijahaaGreatDoorAb
import Derived.Test.YtadliapkjijahaaGreatDoorC1
import Derived.Test.YtadliapkjijahaaGreatDoorC2
import Derived.Test.YtadliapkjijahaaGreatDoorC3
import Derived.Test.YtadliapkjijahaaGreatDoorC4
import Derived.Test.YtadliapkjijahaaGreatDoorC5
import Derived.Test.YtadliapkjijahaaGreatDoorCL
import Derived.Test.YtadliapkjijahaaGreatDoorC6
import Derived.Test.YtadliapkjijahaaGreatDoorC7
import Derived.Test.YtadliapkjijahaaGreatDoorC8
import Derived.Test.YtadliapkjijahaaGreatDoorC9
import Derived.Test.YtadliapkjijahaaGreatDoorCO
import Derived.Test.YtadliapkjijahaaGreatDoorC10
import Derived.Test.YtadliapkjijahaaGreatDoorC12
import Derived.Test.YtadliapkjijahaaGreatDoorC13
import Derived.Test.YtadliapkjijahaaGreatDoorC14
import Derived.Test.YtadliapkjijahaaGreatDoorC15
import Derived.Test.YtadliapkjijahaaGreatDoorC16
import Derived.Test.YtadliapkjijahaaGreatDoorC17
import Derived.Test.YtadliapkjijahaaGreatDoorC24
import Derived.Test.YtadliapkjijahaaGreatDoorC25
import Derived.Test.YtadliapkjijahaaGreatDoorC27
import Derived.Test.YtadliapkjijahaaGreatDoorC30
import Derived.Test.YtadliapkjijahaaGreatDoorC31
import Derived.Test.YtadliapkjijahaaGreatDoorC33
import Derived.Test.YtadliapkjijahaaGreatDoorC34
import Derived.Test.YtadliapkjijahaaGreatDoorCN
import Derived.Test.YtadliapkjijahaaGreatDoorCK
import Derived.Test.YtadliapkjijahaaGreatDoorCG
import Derived.Test.YtadliapkjijahaaGreatDoorCF
import Derived.Test.YtadliapkjijahaaGreatDoorCJ
import Derived.Test.YtadliapkjijahaaGreatDoorCP
import Derived.Test.YtadliapkjijahaaGreatDoorCQ
import Derived.Test.YtadliapkjijahaaGreatDoorC50
import Derived.Test.YtadliapkjijahaaGreatDoorC52
import Derived.Test.YtadliapkjijahaaGreatDoorC53
import Derived.Test.YtadliapkjijahaaGreatDoorC54
import Derived.Test.YtadliapkjijahaaGreatDoorC55
import Derived.Test.YtadliapkjijahaaGreatDoorC56
import Derived.Test.YtadliapkjijahaaGreatDoorC60
import Derived.Test.YtadliapkjijahaaGreatDoorC62
import Derived.Test.YtadliapkjijahaaGreatDoorC70
import Derived.Test.YtadliapkjijahaaGreatDoorC72
import Derived.Test.YtadliapkjijahaaGreatDoorC76
import Derived.Test.YtadliapkjijahaaGreatDoorC77
import Derived.Test.YtadliapkjijahaaGreatDoorC80
import Derived.Test.YtadliapkjijahaaGreatDoorProg
set_option linter.unusedVariables false
set_option linter.unusedSimpArgs false
namespace Go.Proofs.YtadliapkjijahaaGreatDoor
open Ab

abbrev irsTSp : Sp := .nf T1 (fun x (l : Q × List Q) _ => x.1.size ≤ 1048576 ∧ readC (bl x.1) = some l) (fun _ l (y : SlV) => RScv l.1 y 0) (fun _ l y E E' => Side (FreshO y l.2 E E'))
abbrev ctxtTSp : Sp := .rf C1A (fun x (l : List Q × List UInt8) E => FracsAt x.1.errs l.1 E ∧ l.2 = ctxt x.1.unit l.1) (fun _ l => .string (strB l.2))
abbrev corTSp : Sp := .nf CS1 (fun x (l : (List Q × List Q) × List Q) E => FracsAt x.1.errs l.1.1 E ∧ FracsAt x.2.1 l.1.2 E ∧ corR x.1.unit l.1.1 l.1.2 = ((x.1.unit, l.2), 0)) (fun x _ (y : SlV) => RSc x.1.unit y 0) (fun _ l y E E' => Side (Fresh 25 2 Q.cells y l.2 E E'))
abbrev warTSp : Sp := .nf CW1 (fun x (l : List Q × ((Q × List Q) × Int)) E => FracsAt x.1.errs l.1 E ∧ warR x.1.unit l.1 x.2.1 = l.2) (fun _ l (y : SlV) => RSc l.2.1.1 y l.2.2) (fun _ l y E E' => Side (Fresh 25 2 Q.cells y l.2.1.2 E E'))
abbrev worstTSp : Sp := .rf C1A (fun x (l : List Q × (Q × Int)) E => FracsAt x.1.errs l.1 E ∧ l.2 = worstR x.1.unit l.1) (fun _ l => RQ l.2)
abbrev markTSp : Sp := .rf CI (fun x (l : List Q × (Q × Int)) E => FracsAt x.1.errs l.1 E ∧ l.2 = markR x.1.unit l.1 x.2.1) (fun _ l => RQ l.2)
abbrev makeTSp : Sp := .rf I2 (fun x (l : Q × Int) _ => l = makeR x.1 x.2.1) (fun _ l => RQ l)
theorem irsT_ok : Sp.ok Tryz.prog 26 irsTSp := by
  intro bs m E K hk
  refine irs_ok bs m E K ?_
  simp only [Sp.nf] at hk ⊢
  split at hk
  · split at hk
    · obtain ⟨l, hl, hk⟩ := hk
      obtain ⟨h1, h2⟩ := hl.out
      refine ⟨(), Side.mk h1, fun y E' hq => ?_⟩
      rw [scale_alike, h2] at hq ⊢
      exact hk y E' hq
    · cases hk
  · cases hk
theorem ctxtT_ok : Sp.ok Tryz.prog 31 ctxtTSp := by
  intro bs m E K hk
  refine ictxt_ok bs m E K ?_
  simp only [Sp.rf] at hk ⊢
  split at hk
  · split at hk
    · obtain ⟨⟨l, t⟩, hl, hk⟩ := hk
      obtain ⟨h1, h2⟩ := hl.out
      dsimp only at h1 h2
      subst h2
      exact ⟨l, Side.mk h1, hk⟩
    · cases hk
  · cases hk
theorem corT_ok : Sp.ok Tryz.prog 32 corTSp := by
  intro bs m E K hk
  refine cor_ok bs m E K ?_
  simp only [Sp.nf] at hk ⊢
  split at hk
  · split at hk
    · obtain ⟨⟨l, r⟩, hl, hk⟩ := hk
      obtain ⟨h1, h2, h3⟩ := hl.out
      dsimp only at h1 h2 h3
      refine ⟨l, Side.mk ⟨h1, h2⟩, fun y E' hq => ?_⟩
      rw [h3] at hq ⊢
      exact hk y E' hq
    · cases hk
  · cases hk
theorem warT_ok : Sp.ok Tryz.prog 33 warTSp := by
  intro bs m E K hk
  refine war_ok bs m E K ?_
  simp only [Sp.nf] at hk ⊢
  split at hk
  · split at hk
    · obtain ⟨⟨l, r⟩, hl, hk⟩ := hk
      obtain ⟨h1, h2⟩ := hl.out
      dsimp only at h1 h2
      refine ⟨l, Side.mk h1, fun y E' hq => ?_⟩
      rw [h2] at hq ⊢
      exact hk y E' hq
    · cases hk
  · cases hk
theorem swarT_ok : Sp.ok Tryz.prog 36 warTSp := by
  intro bs m E K hk
  refine swar_ok bs m E K ?_
  simp only [Sp.nf] at hk ⊢
  split at hk
  · split at hk
    · obtain ⟨⟨l, r⟩, hl, hk⟩ := hk
      obtain ⟨h1, h2⟩ := hl.out
      dsimp only at h1 h2
      refine ⟨l, Side.mk h1, fun y E' hq => ?_⟩
      rw [h2] at hq ⊢
      exact hk y E' hq
    · cases hk
  · cases hk
theorem worstT_ok : Sp.ok Tryz.prog 34 worstTSp := by
  intro bs m E K hk
  refine worstA_ok bs m E K ?_
  simp only [Sp.rf] at hk ⊢
  split at hk
  · split at hk
    · obtain ⟨⟨l, t⟩, hl, hk⟩ := hk
      obtain ⟨h1, h2⟩ := hl.out
      dsimp only at h1 h2
      subst h2
      exact ⟨l, Side.mk h1, hk⟩
    · cases hk
  · cases hk
theorem markT_ok : Sp.ok Tryz.prog 39 markTSp := by
  intro bs m E K hk
  refine markA_ok bs m E K ?_
  simp only [Sp.rf] at hk ⊢
  split at hk
  · split at hk
    · obtain ⟨⟨l, t⟩, hl, hk⟩ := hk
      obtain ⟨h1, h2⟩ := hl.out
      dsimp only at h1 h2
      subst h2
      exact ⟨l, Side.mk h1, hk⟩
    · cases hk
  · cases hk
theorem makeT_ok : Sp.ok Tryz.prog 35 makeTSp := Sp.told (en := RQ) smakeF_ok

end Go.Proofs.YtadliapkjijahaaGreatDoor
