/- Reading spans from their texts: plain lemmas, no program in sight; no condition. -/
import Derived.Test.YtadliapkjijahaaGreatDoorAb
import Derived.Test.YtadliapkjijahaaGreatDoorC1
import Derived.Test.YtadliapkjijahaaGreatDoorC2
import Derived.Test.YtadliapkjijahaaGreatDoorC3
import Derived.Test.YtadliapkjijahaaGreatDoorC4
import Derived.Test.YtadliapkjijahaaGreatDoorC5
import Derived.Test.YtadliapkjijahaaGreatDoorC6
import Derived.Test.YtadliapkjijahaaGreatDoorC7
import Derived.Test.YtadliapkjijahaaGreatDoorC10
import Derived.Test.YtadliapkjijahaaGreatDoorC12
import Derived.Test.YtadliapkjijahaaGreatDoorC24
import Derived.Test.YtadliapkjijahaaGreatDoorC25
import Derived.Test.YtadliapkjijahaaGreatDoorCK
import Derived.Test.YtadliapkjijahaaGreatDoorCF
import Derived.Test.YtadliapkjijahaaGreatDoorC50
import Derived.Test.YtadliapkjijahaaGreatDoorC51
import Derived.Test.YtadliapkjijahaaGreatDoorC53
import Derived.Test.YtadliapkjijahaaGreatDoorProg
set_option linter.unusedVariables false
set_option linter.unusedSimpArgs false
namespace Go.Proofs.YtadliapkjijahaaGreatDoor
open Ab

open Go.Lib
def firstD (l : List UInt8) : Option Nat := (List.range (l.length - 1)).find? fun i => l[i]? == some 46
theorem firstD_some {l : List UInt8} {k : Nat} (h : l[k]? = some 46) (hk : k + 1 < l.length) (hn : ∀ i, i < k → l[i]? ≠ some 46) : firstD l = some k := by
  unfold firstD
  rw [List.find?_range_eq_some]
  exact ⟨by simpa using h, by simp; omega, fun j hj => by simpa using hn j hj⟩
theorem firstD_none {l : List UInt8} (hn : ∀ i, i + 1 < l.length → l[i]? ≠ some 46) : firstD l = none := by
  unfold firstD
  rw [List.find?_eq_none]
  intro i hi
  have := List.mem_range.1 hi
  simpa using hn i (by omega)
theorem firstD_back {l : List UInt8} {k : Nat} (h : firstD l = some k) : l[k]? = some 46 ∧ k + 1 < l.length := by
  unfold firstD at h
  rw [List.find?_range_eq_some] at h
  obtain ⟨h1, h2, _⟩ := h
  have := List.mem_range.1 h2
  exact ⟨by simpa using h1, by omega⟩
def spanAt (l : List UInt8) (k : Nat) : Sn := ⟨(readV (l.take k)).1, (readV (l.drop (k + 2))).1⟩
def readSV (l : List UInt8) : Sn × Bool := match firstD l with
  | some k => (spanAt l k, decide (l[k + 1]? = some 46) && (readV (l.take k)).2 && (readV (l.drop (k + 2))).2 && okS (spanAt l k))
  | none => (⟨⟨0, 0⟩, ⟨0, 0⟩⟩, false)
theorem two_drop {l : List UInt8} {k : Nat} (h1 : l[k]? = some 46) (h2 : l[k + 1]? = some 46) : l.take k ++ (46 :: 46 :: l.drop (k + 2)) = l := by
  have e1 : l.drop k = 46 :: l.drop (k + 1) := by
    obtain ⟨a, b⟩ := List.getElem?_eq_some_iff.1 h1
    rw [List.drop_eq_getElem_cons a, b]
  have e2 : l.drop (k + 1) = 46 :: l.drop (k + 2) := by
    obtain ⟨a, b⟩ := List.getElem?_eq_some_iff.1 h2
    rw [List.drop_eq_getElem_cons a, b]
  rw [← e2, ← e1, List.take_append_drop]
theorem readSV_ok {l : List UInt8} (h : (readSV l).2 = true) : stxt (readSV l).1 = l ∧ okS (readSV l).1 = true := by
  unfold readSV at h ⊢
  cases hf : firstD l with
  | none => rw [hf] at h; cases h
  | some k =>
    rw [hf] at h
    dsimp only at h ⊢
    rw [Bool.and_eq_true, Bool.and_eq_true, Bool.and_eq_true, decide_eq_true_eq] at h
    obtain ⟨⟨⟨h1, h2⟩, h3⟩, h4⟩ := h
    refine ⟨?_, h4⟩
    rw [stxt_yes h4]
    unfold spanAt
    dsimp only
    rw [(readV_ok h2).1, (readV_ok h3).1]
    exact two_drop (firstD_back hf).1 h1
theorem txt_nodot (a : Q) : (46 : UInt8) ∉ txtQ a := by
  unfold txtQ
  split
  · exact itoa_not (by decide) (by decide)
  · intro h
    rcases List.mem_append.1 h with h | h
    · exact itoa_not (by decide) (by decide) h
    · rcases List.mem_cons.1 h with h | h
      · exact absurd h (by decide)
      · exact itoa_not (by decide) (by decide) h
theorem readSV_txt {s : Sn} (h : okS s = true) : readSV (stxt s) = (s, true) := by
  have hlo := okS_lo h
  have hhi := okS_hi h
  have hl := stxt_yes h
  have h1 : (stxt s)[(txtQ s.lo).length]? = some 46 := by rw [hl, List.getElem?_append_right (Nat.le_refl _), Nat.sub_self]; rfl
  have h2 : (stxt s)[(txtQ s.lo).length + 1]? = some 46 := by
    rw [hl, List.getElem?_append_right (by omega), show (txtQ s.lo).length + 1 - (txtQ s.lo).length = 1 by omega]; rfl
  have h3 : (stxt s).take (txtQ s.lo).length = txtQ s.lo := by rw [hl]; exact List.take_left ..
  have h4 : (stxt s).drop ((txtQ s.lo).length + 2) = txtQ s.hi := by rw [hl, List.drop_append]; simp
  have hf : firstD (stxt s) = some (txtQ s.lo).length := by
    refine firstD_some h1 (List.getElem?_eq_some_iff.1 h2).1 fun i hi h5 => ?_
    rw [hl, List.getElem?_append_left hi] at h5
    exact txt_nodot s.lo (List.mem_of_getElem? h5)
  have hs : spanAt (stxt s) (txtQ s.lo).length = s := by
    unfold spanAt
    rw [h3, h4, readV_txt hlo, readV_txt hhi]
  unfold readSV
  rw [hf]
  dsimp only
  rw [hs, h3, h4, readV_txt hlo, readV_txt hhi, h2, h]
  rfl
theorem index_two {a b : List UInt8} (h : (46 : UInt8) ∉ a) : Lib.index (a ++ (46 :: 46 :: b)) [46, 46] = a.length := by
  induction a with
  | nil =>
    rw [List.nil_append, Lib.index]
    have : List.isPrefixOf [46, 46] ((46 : UInt8) :: 46 :: b) = true := by simp [List.isPrefixOf]
    rw [this]
    rfl
  | cons x a ih =>
    have hx : x ≠ 46 := fun e => h (by rw [e]; simp)
    rw [List.cons_append, Lib.index, ih (fun hm => h (List.mem_cons_of_mem _ hm))]
    have : List.isPrefixOf [46, 46] (x :: (a ++ (46 :: 46 :: b))) = false := by
      simp [List.isPrefixOf, Ne.symm hx]
    rw [this]
    have h2 : ((a.length : Int) == -1) = false := by simp
    simp [h2]
theorem cut_two {a b : List UInt8} (h : (46 : UInt8) ∉ a) : Lib.cut (a ++ (46 :: 46 :: b)) [46, 46] = (a, b, true) := by
  unfold Lib.cut
  rw [index_two h, if_pos (by omega)]
  simp [List.drop_append]
def cutS (s : List UInt8) : Sn := ⟨(implR (Lib.cut s [46, 46]).1).1, (implR (Lib.cut s [46, 46]).2.1).1⟩
def implRS (s : List UInt8) : Sn × Int := if (implR (Lib.cut s [46, 46]).1).2 ≠ 0 ∨ (implR (Lib.cut s [46, 46]).2.1).2 ≠ 0 ∨ stxt (cutS s) ≠ s then (⟨⟨0, 0⟩, ⟨0, 0⟩⟩, 5) else (cutS s, 0)
def specRS (s : List UInt8) : Sn × Int := if (readSV s).2 then ((readSV s).1, 0) else (⟨⟨0, 0⟩, ⟨0, 0⟩⟩, 5)
theorem implR_txt {a : Q} (h : okQ a = true) : implR (txtQ a) = (a, 0) := by rw [read_alike, specR, readV_txt h]; rfl
theorem span_alike (s : List UInt8) : implRS s = specRS s := by
  unfold implRS specRS
  by_cases h : (readSV s).2 = true
  · obtain ⟨h1, h2⟩ := readSV_ok h
    rw [if_pos h]
    have hc : Lib.cut s [46, 46] = (txtQ (readSV s).1.lo, txtQ (readSV s).1.hi, true) := by
      conv => lhs; rw [← h1, stxt_yes h2]
      exact cut_two (txt_nodot _)
    have e1 := implR_txt (okS_lo h2)
    have e2 := implR_txt (okS_hi h2)
    have e3 : cutS s = (readSV s).1 := by
      unfold cutS
      rw [hc]
      dsimp only
      rw [e1, e2]
    rw [hc]
    dsimp only
    rw [e1, e2, e3, if_neg]
    rintro (h3 | h3 | h3)
    · exact h3 rfl
    · exact h3 rfl
    · exact h3 h1
  · rw [if_neg h]
    by_cases hs : (implR (Lib.cut s [46, 46]).1).2 ≠ 0 ∨ (implR (Lib.cut s [46, 46]).2.1).2 ≠ 0 ∨ stxt (cutS s) ≠ s
    · rw [if_pos hs]
    · exfalso
      have a1 : (implR (Lib.cut s [46, 46]).1).2 = 0 := Classical.byContradiction fun e => hs (.inl e)
      have a3 : stxt (cutS s) = s := Classical.byContradiction fun e => hs (.inr (.inr e))
      by_cases hok : okS (cutS s) = true
      · have := readSV_txt hok
        rw [a3] at this
        rw [this] at h
        exact h rfl
      · have hn : s = [] := by
          rw [← a3, stxt, if_neg hok]
        rw [hn] at a1
        revert a1
        decide

end Go.Proofs.YtadliapkjijahaaGreatDoor
