/- Contracts of both packages' functions that read spans from texts; condition: texts of a million bytes at most. (Built with what is known of five variables: GTV=.R) -/
import Derived.Test.YtadliapkjijahaaGreatDoorAb
import Derived.Test.YtadliapkjijahaaGreatDoorC1
import Derived.Test.YtadliapkjijahaaGreatDoorC2
import Derived.Test.YtadliapkjijahaaGreatDoorC3
import Derived.Test.YtadliapkjijahaaGreatDoorC4
import Derived.Test.YtadliapkjijahaaGreatDoorC5
import Derived.Test.YtadliapkjijahaaGreatDoorC6
import Derived.Test.YtadliapkjijahaaGreatDoorC7
import Derived.Test.YtadliapkjijahaaGreatDoorC10
import Derived.Test.YtadliapkjijahaaGreatDoorC12
import Derived.Test.YtadliapkjijahaaGreatDoorC24
import Derived.Test.YtadliapkjijahaaGreatDoorC25
import Derived.Test.YtadliapkjijahaaGreatDoorC30
import Derived.Test.YtadliapkjijahaaGreatDoorCN
import Derived.Test.YtadliapkjijahaaGreatDoorCK
import Derived.Test.YtadliapkjijahaaGreatDoorCG
import Derived.Test.YtadliapkjijahaaGreatDoorCF
import Derived.Test.YtadliapkjijahaaGreatDoorCP
import Derived.Test.YtadliapkjijahaaGreatDoorC50
import Derived.Test.YtadliapkjijahaaGreatDoorC51
import Derived.Test.YtadliapkjijahaaGreatDoorC53
import Derived.Test.YtadliapkjijahaaGreatDoorC54
import Derived.Test.YtadliapkjijahaaGreatDoorC55
import Derived.Test.YtadliapkjijahaaGreatDoorC56
import Derived.Test.YtadliapkjijahaaGreatDoorC57
import Derived.Test.YtadliapkjijahaaGreatDoorProg
set_option linter.unusedVariables false
set_option linter.unusedSimpArgs false
namespace Go.Proofs.YtadliapkjijahaaGreatDoor
open Ab

open Go.Shelf Go.RowKit Go.Lib Go.Sort
theorem rs_end {l : List UInt8} {k : Nat} {e : UInt8} {p1 p2 : Q} {o1 o2 : Bool} (hf : firstD l = some k) (he : l[k + 1]? = some e) {x1 x2 : List UInt8} (e1 : x1 = l.take k) (e2 : x2 = l.drop (k + 2)) (h1 : o1 = (readV x1).2 ∧ (o1 = true → p1 = (readV x1).1))
    (h2 : o2 = (readV x2).2 ∧ (o2 = true → p2 = (readV x2).1)) {t : Bool} (ht : ((e.toNat : Int) == 46) = t) :
    ((t && o1 && o2) && okS ⟨p1, p2⟩) = (readSV l).2 ∧ (((t && o1 && o2) && okS ⟨p1, p2⟩) = true → (⟨p1, p2⟩ : Sn) = (readSV l).1) := by
  subst e1 e2
  obtain ⟨h1, g1⟩ := h1
  obtain ⟨h2, g2⟩ := h2
  have hd : decide (l[k + 1]? = some 46) = t := by
    rw [he, ← ht]
    by_cases h : e = 46
    · rw [h]; rfl
    · have h3 : ((e.toNat : Int) == 46) = false := by
        apply Bool.eq_false_iff.2
        intro h4
        exact h (u8_eq (d := 46) h4)
      rw [h3]
      simp [h]
  unfold readSV
  rw [hf]
  dsimp only
  rw [hd, ← h1, ← h2]
  cases o1 with
  | false => simp
  | true =>
    cases o2 with
    | false => simp
    | true =>
      rw [g1 rfl, g2 rfl]
      exact ⟨rfl, fun _ => rfl⟩
abbrev rsSp : Sp := .nf T1 (fun x (_ : Unit) _ => x.1.size ≤ 1048576) (fun x _ (y : Sn × Bool) => .tuple #[y.1.v, .bool y.2]) (fun x _ y E E' => Keeps E E' ∧ y.2 = (readSV (bl x.1)).2 ∧ (y.2 = true → y.1 = (readSV (bl x.1)).1))
set_option maxHeartbeats 2000000 in
abbrev rdSSp : Sp := .nf T1 (fun x (_ : Unit) _ => x.1.size ≤ 1048576) (fun x _ (_ : Unit) => RS (specRS (bl x.1))) (fun _ _ _ E E' => Keeps E E')
abbrev rdISSp : Sp := .pf T1 (fun x => x.1.size ≤ 1048576) (fun x => RS (implRS (bl x.1)))
theorem implRS_1 {s : List UInt8} (h : ((implR (Lib.cut s [46, 46]).1).2 != 0) = true) : implRS s = (⟨⟨0, 0⟩, ⟨0, 0⟩⟩, 5) := if_pos (.inl (by simpa using h))
theorem implRS_2 {s : List UInt8} (h : ((implR (Lib.cut s [46, 46]).2.1).2 != 0) = true) : implRS s = (⟨⟨0, 0⟩, ⟨0, 0⟩⟩, 5) := if_pos (.inr (.inl (by simpa using h)))
theorem implRS_3 {s : List UInt8} (h : (!(stxt (cutS s) == s)) = true) : implRS s = (⟨⟨0, 0⟩, ⟨0, 0⟩⟩, 5) := if_pos (.inr (.inr (by simpa using h)))
theorem implRS_4 {s : List UInt8} (h1 : ((implR (Lib.cut s [46, 46]).1).2 != 0) = false) (h2 : ((implR (Lib.cut s [46, 46]).2.1).2 != 0) = false) (h3 : (!(stxt (cutS s) == s)) = false) : implRS s = (cutS s, 0) := by
  unfold implRS
  rw [if_neg]
  rintro (h | h | h)
  · exact h (by simpa using h1)
  · exact h (by simpa using h2)
  · exact h (by simpa using h3)
set_option maxHeartbeats 2000000 in
set_option maxRecDepth 100000 in
theorem irdS_ok : Sp.ok Tryz.prog 8 rdISSp := by
  refine Sp.pf_ok (T := ⟨[(45, cuttSp), (46, rdIFSp), (9, stxtSp)], []⟩) follows eqok0 ⟨enters Tryz.func45 rfl rfl, cutt_ok, enters Tryz.func46 rfl rfl, irdF_ok, enters Tryz.func9 rfl rfl, istxt_ok, trivial⟩ [] Tryz.func8 rfl (by kernel_rfl) _ _ _ fun x E hp => ?_
  obtain ⟨b, u⟩ := x
  dsimp only at hp
  have hsz : b.size = (bl b).length := ba_len b
  have hc := cut_len (bl b) [46, 46]
  have h47 : bl (⟨#[46, 46]⟩ : ByteArray) = [46, 46] := rfl
  (repeat' ((conv => whnf); (first | with_reducible apply And.intro | (with_reducible intro hh; first | (with_reducible have hx := NewRow.self hh; clear hx) | (with_reducible have hrow := Made.row hh; have hle := Made.le hh; have hmade := hh; clear hh) | (with_reducible have hrow := Fresh.rowS hh; have hle := Fresh.leS hh; have hfr := hh; clear hh) | (with_reducible have hx := Ext.self hh; clear hx) | (with_reducible have hx := SlV.self hh; clear hx) | (with_reducible have hx := Value.self hh; clear hx) | with_reducible cases hh | skip) | (with_reducible apply AllEq.mk; intro yy hq) | with_reducible apply trivial | with_reducible apply Exists.intro () | (with_reducible apply ex_side; (first | with_reducible assumption | with_reducible apply fracs1 | with_reducible apply fracs2 | with_reducible apply fracs3 | with_reducible apply spans1 | with_reducible apply spans2 | (with_reducible apply NewRow.keep; with_reducible assumption) | (with_reducible apply RowAt.keep; with_reducible assumption) | assumption | (focus ((repeat (first | with_reducible assumption | (with_reducible apply RowAt.le; rotate_left; with_reducible assumption) | (with_reducible apply RowB.le; rotate_left; with_reducible assumption))); done)))) | (with_reducible apply ex_side (a := (_, _)); (focus (with_reducible apply And.intro <;> (focus ((repeat (first | with_reducible assumption | (with_reducible apply RowAt.le; rotate_left; with_reducible assumption) | (with_reducible apply RowB.le; rotate_left; with_reducible assumption))); done))))))); (all_goals (conv => whnf)))
  (all_goals (try dsimp only [Q.eta, Sn.eta, SlV.eta] at *)); (all_goals (first | exact Side.mk trivial | with_reducible exact Side.mk rfl | exact Side.mk (fun _ _ h => h) | exact Side.mk (Made.le (by assumption)) | refine Side.mk ?_ | refine Don.mk ?_ | skip))
  all_goals try exact hp
  all_goals try rw [h47] at *
  all_goals try simp only [ba_toList, h47, bl_strB', bl_strB] at *
  all_goals try (rw [strB_size]; omega)
  all_goals first
    | exact congrArg (fun z => AV.v (RS z)) (implRS_1 (by assumption)).symm
    | exact congrArg (fun z => AV.v (RS z)) (implRS_2 (by assumption)).symm
    | exact congrArg (fun z => AV.v (RS z)) (implRS_3 (by assumption)).symm
    | exact congrArg (fun z => AV.v (RS z)) (implRS_4 (by assumption) (by assumption) (by assumption)).symm

end Go.Proofs.YtadliapkjijahaaGreatDoor
