/- Contracts of the reference's functions that read numbers and fractions from texts; condition: texts of a million bytes at most. -/
import Derived.Test.YtadliapkjijahaaGreatDoorAb
import Derived.Test.YtadliapkjijahaaGreatDoorC1
import Derived.Test.YtadliapkjijahaaGreatDoorC2
import Derived.Test.YtadliapkjijahaaGreatDoorC3
import Derived.Test.YtadliapkjijahaaGreatDoorC4
import Derived.Test.YtadliapkjijahaaGreatDoorC10
import Derived.Test.YtadliapkjijahaaGreatDoorC12
import Derived.Test.YtadliapkjijahaaGreatDoorC24
import Derived.Test.YtadliapkjijahaaGreatDoorC25
import Derived.Test.YtadliapkjijahaaGreatDoorC30
import Derived.Test.YtadliapkjijahaaGreatDoorCN
import Derived.Test.YtadliapkjijahaaGreatDoorCK
import Derived.Test.YtadliapkjijahaaGreatDoorCG
import Derived.Test.YtadliapkjijahaaGreatDoorCF
import Derived.Test.YtadliapkjijahaaGreatDoorC50
import Derived.Test.YtadliapkjijahaaGreatDoorC53
import Derived.Test.YtadliapkjijahaaGreatDoorProg
set_option linter.unusedVariables false
set_option linter.unusedSimpArgs false
namespace Go.Proofs.YtadliapkjijahaaGreatDoor
open Ab

open Go.Shelf Go.RowKit Go.Lib Go.Sort
theorem loop_eq (b : ByteArray) : ∀ (n i : Nat) (r : List UInt8), b.size - i = n → ByteArray.toList.loop b i r = r.reverse ++ b.data.toList.drop i := by
  intro n
  induction n with
  | zero =>
    intro i r h
    unfold ByteArray.toList.loop
    rw [if_neg (by omega), List.drop_eq_nil_of_le (by simp; omega)]
    simp
  | succ n ih =>
    intro i r h
    unfold ByteArray.toList.loop
    have hi : i < b.data.toList.length := by simp; omega
    rw [if_pos (by omega), ih (i + 1) _ (by omega), List.drop_eq_getElem_cons hi]
    have : b.get! i = b.data.toList[i] := by
      cases b
      simp [ByteArray.get!]
      rw [getElem!_pos]
    simp [this]
theorem ba_toList (b : ByteArray) : b.toList = b.data.toList := by
  unfold ByteArray.toList
  rw [loop_eq b _ 0 [] rfl]
  simp
theorem ba_get (b : ByteArray) (i : Nat) : b[i]? = b.data.toList[i]? := by
  by_cases h : i < b.size
  · rw [getElem?_pos b i h]
    have h' : i < b.data.toList.length := by simpa using h
    rw [List.getElem?_eq_getElem h']
    rfl
  · rw [getElem?_neg b i h, List.getElem?_eq_none (by simpa using h)]
theorem ba_cut (b : ByteArray) (i j : Nat) : (b.extract i j).data.toList = (b.data.toList.drop i).take (j - i) := by simp [ByteArray.data_extract]
theorem ba_len (b : ByteArray) : b.size = b.data.toList.length := by simp
abbrev T1 : ArgL (ByteArray × Unit) := .cons .str .nil
abbrev bl (b : ByteArray) : List UInt8 := b.data.toList
def numM : Option Nat → Int × Bool
  | some n => ((n : Int), true)
  | none => (0, false)
theorem pow_step {k acc d : Nat} (h : acc < 10 ^ k) (hd : d ≤ 9) : 10 * acc + d < 10 ^ (k + 1) := by rw [Nat.pow_succ]; omega
theorem drop_some {l : List UInt8} {k : Nat} {d : UInt8} (h : l[k]? = some d) : l.drop k = d :: l.drop (k + 1) := by
  obtain ⟨h1, h2⟩ := List.getElem?_eq_some_iff.1 h
  rw [List.drop_eq_getElem_cons h1, h2]
theorem digit_wrap {acc d : Nat} (ha : acc < 10000000000) (h1 : 48 ≤ d) (h2 : d ≤ 57) : IntKind.i64.wrap (IntKind.i64.wrap (10 * (acc : Int)) + IntKind.i64.wrap (IntKind.u8.wrap ((d : Int) - 48))) = ((10 * acc + (d - 48) : Nat) : Int) := by
  have h3 : IntKind.u8.wrap ((d : Int) - 48) = ((d - 48 : Nat) : Int) := by
    simp [IntKind.wrap, IntKind.signed, IntKind.bits]
    omega
  rw [h3, wrap_in (a := 10 * (acc : Int)) (by omega) (by omega), wrap_in (a := ((d - 48 : Nat) : Int)) (by omega) (by omega), wrap_in (by omega) (by omega)]
  omega
abbrev numbSp : Sp := .pf T1 (fun x => x.1.size ≤ 1048576) (fun x => .tuple #[.int .i64 (numV (bl x.1)).1, .bool (numV (bl x.1)).2])

set_option maxHeartbeats 2000000 in
set_option maxRecDepth 100000 in
theorem numb_ok : Sp.ok Tryz.prog 108 numbSp := by
  refine Sp.pf_ok (T := ⟨[], []⟩) follows eqok0 trivial [] Tryz.func108 rfl (by kernel_rfl) _ _ _ fun x E hp => ?_
  obtain ⟨b, u⟩ := x
  dsimp only at hp
  have hsz := ba_len b
  have he : (⟨#[]⟩ : ByteArray).toList = [] := by rw [ba_toList]
  obtain ⟨l, hl⟩ : ∃ l, l = b.data.toList := ⟨_, rfl⟩
  have hbl : bl b = l := hl.symm
  rw [← hl] at hsz
  have hb0 : b.toList = l := by rw [ba_toList, hl]
  rw [show bl b = l from hbl]
  by_cases hg : l = [] ∨ 10 < l.length ∨ (l.head? = some 48 ∧ 1 < l.length)
  · have hV : numV l = (0, false) := by unfold numV; rw [if_pos hg]
    rw [hV]
    cases hlc : l with
    | nil =>
      have h1 : ¬ (b.toList == (⟨#[]⟩ : ByteArray).toList) = false := by rw [hb0, hlc, he]; decide
      (repeat' ((conv => whnf); (first | with_reducible apply And.intro | (with_reducible intro hh; first | (with_reducible have hx := NewRow.self hh; clear hx) | (with_reducible have hrow := Made.row hh; have hle := Made.le hh; have hmade := hh; clear hh) | (with_reducible have hrow := Fresh.rowS hh; have hle := Fresh.leS hh; have hfr := hh; clear hh) | (with_reducible have hx := Ext.self hh; clear hx) | (with_reducible have hx := SlV.self hh; clear hx) | (with_reducible have hx := Value.self hh; clear hx) | with_reducible cases hh | skip) | (with_reducible apply AllEq.mk; intro yy hq) | with_reducible apply trivial | with_reducible apply Exists.intro () | (with_reducible apply ex_side; (first | with_reducible assumption | with_reducible apply fracs1 | with_reducible apply fracs2 | with_reducible apply fracs3 | with_reducible apply spans1 | with_reducible apply spans2 | (with_reducible apply NewRow.keep; with_reducible assumption) | (with_reducible apply RowAt.keep; with_reducible assumption) | assumption | (focus ((repeat (first | with_reducible assumption | (with_reducible apply RowAt.le; rotate_left; with_reducible assumption) | (with_reducible apply RowB.le; rotate_left; with_reducible assumption))); done)))) | (with_reducible apply ex_side (a := (_, _)); (focus (with_reducible apply And.intro <;> (focus ((repeat (first | with_reducible assumption | (with_reducible apply RowAt.le; rotate_left; with_reducible assumption) | (with_reducible apply RowB.le; rotate_left; with_reducible assumption))); done))))))); (all_goals (conv => whnf)))
      (all_goals (try dsimp only [Q.eta, Sn.eta, SlV.eta] at *)); (all_goals (first | exact Side.mk trivial | with_reducible exact Side.mk rfl | exact Side.mk (fun _ _ h => h) | exact Side.mk (Made.le (by assumption)) | refine Side.mk ?_ | refine Don.mk ?_ | skip))
      all_goals first | (exfalso; exact h1 (by assumption)) | rfl
    | cons c r =>
      have h1 : ¬ (b.toList == (⟨#[]⟩ : ByteArray).toList) = true := by rw [hb0, hlc, he]; simp
      have h2 : 0 ≤ (0 : Int) ∧ b[Int.toNat 0]? = some c := ⟨by omega, by rw [ba_get, ← hl, hlc]; rfl⟩
      rcases hg with hg | hg | ⟨hg, hg1⟩
      · rw [hlc] at hg; cases hg
      · (repeat' ((conv => whnf); (first | with_reducible apply And.intro | (with_reducible intro hh; first | (with_reducible have hx := NewRow.self hh; clear hx) | (with_reducible have hrow := Made.row hh; have hle := Made.le hh; have hmade := hh; clear hh) | (with_reducible have hrow := Fresh.rowS hh; have hle := Fresh.leS hh; have hfr := hh; clear hh) | (with_reducible have hx := Ext.self hh; clear hx) | (with_reducible have hx := SlV.self hh; clear hx) | (with_reducible have hx := Value.self hh; clear hx) | with_reducible cases hh | skip) | (with_reducible apply AllEq.mk; intro yy hq) | with_reducible apply trivial | with_reducible apply Exists.intro () | (with_reducible apply ex_side; (first | with_reducible assumption | with_reducible apply fracs1 | with_reducible apply fracs2 | with_reducible apply fracs3 | with_reducible apply spans1 | with_reducible apply spans2 | (with_reducible apply NewRow.keep; with_reducible assumption) | (with_reducible apply RowAt.keep; with_reducible assumption) | assumption | (focus ((repeat (first | with_reducible assumption | (with_reducible apply RowAt.le; rotate_left; with_reducible assumption) | (with_reducible apply RowB.le; rotate_left; with_reducible assumption))); done)))) | (with_reducible apply ex_side (a := (_, _)); (focus (with_reducible apply And.intro <;> (focus ((repeat (first | with_reducible assumption | (with_reducible apply RowAt.le; rotate_left; with_reducible assumption) | (with_reducible apply RowB.le; rotate_left; with_reducible assumption))); done))))))); (all_goals (conv => whnf)))
        (all_goals (try dsimp only [Q.eta, Sn.eta, SlV.eta] at *)); (all_goals (first | exact Side.mk trivial | with_reducible exact Side.mk rfl | exact Side.mk (fun _ _ h => h) | exact Side.mk (Made.le (by assumption)) | refine Side.mk ?_ | refine Don.mk ?_ | skip))
        all_goals first | (exfalso; exact h1 (by assumption)) | rfl | (exfalso; have h3 := of_decide_eq_false (by assumption : decide ((b.size : Int) > 10) = false); omega)
      · have h4 : ¬ ((c.toNat : Int) == 48) = false := by
          rw [hlc] at hg
          rw [Option.some.inj hg]
          decide
        (repeat' ((conv => whnf); (first | with_reducible apply And.intro | (with_reducible intro hh; first | (with_reducible have hx := NewRow.self hh; clear hx) | (with_reducible have hrow := Made.row hh; have hle := Made.le hh; have hmade := hh; clear hh) | (with_reducible have hrow := Fresh.rowS hh; have hle := Fresh.leS hh; have hfr := hh; clear hh) | (with_reducible have hx := Ext.self hh; clear hx) | (with_reducible have hx := SlV.self hh; clear hx) | (with_reducible have hx := Value.self hh; clear hx) | with_reducible cases hh | skip) | (with_reducible apply AllEq.mk; intro yy hq) | with_reducible apply trivial | with_reducible apply Exists.intro () | (with_reducible apply ex_side; (first | with_reducible assumption | with_reducible apply fracs1 | with_reducible apply fracs2 | with_reducible apply fracs3 | with_reducible apply spans1 | with_reducible apply spans2 | (with_reducible apply NewRow.keep; with_reducible assumption) | (with_reducible apply RowAt.keep; with_reducible assumption) | assumption | (focus ((repeat (first | with_reducible assumption | (with_reducible apply RowAt.le; rotate_left; with_reducible assumption) | (with_reducible apply RowB.le; rotate_left; with_reducible assumption))); done)))) | (with_reducible apply ex_side (a := (_, _)); (focus (with_reducible apply And.intro <;> (focus ((repeat (first | with_reducible assumption | (with_reducible apply RowAt.le; rotate_left; with_reducible assumption) | (with_reducible apply RowB.le; rotate_left; with_reducible assumption))); done))))))); (all_goals (conv => whnf)))
        (all_goals (try dsimp only [Q.eta, Sn.eta, SlV.eta] at *)); (all_goals (first | exact Side.mk trivial | with_reducible exact Side.mk rfl | exact Side.mk (fun _ _ h => h) | exact Side.mk (Made.le (by assumption)) | refine Side.mk ?_ | refine Don.mk ?_ | skip))
        all_goals first | (exfalso; exact h1 (by assumption)) | rfl | (exfalso; exact h4 (by assumption)) | (exfalso; have h3 := of_decide_eq_false (by assumption : decide ((b.size : Int) > 1) = false); omega)
  · have hV : numV l = numM (valL 0 l) := by unfold numV; rw [if_neg hg]; cases valL 0 l <;> rfl
    rw [hV]
    have hl1 : l ≠ [] := fun e => hg (.inl e)
    have hl2 : l.length ≤ 10 := by apply Nat.le_of_not_lt; intro e; exact hg (.inr (.inl e))
    have hl3 : l.head? = some 48 → ¬ 1 < l.length := fun e1 e2 => hg (.inr (.inr ⟨e1, e2⟩))
    clear hg hV
    obtain ⟨c, r, hlc⟩ : ∃ c r, l = c :: r := by
      cases l with
      | nil => exact absurd rfl hl1
      | cons c r => exact ⟨c, r, rfl⟩
    have h1 : ¬ (b.toList == (⟨#[]⟩ : ByteArray).toList) = true := by rw [hb0, hlc, he]; simp
    have h2 : 0 ≤ (0 : Int) ∧ b[Int.toNat 0]? = some c := ⟨by omega, by rw [ba_get, ← hl, hlc]; rfl⟩
    (repeat' ((conv => whnf); (first | with_reducible apply And.intro | (with_reducible intro hh; first | (with_reducible have hx := NewRow.self hh; clear hx) | (with_reducible have hrow := Made.row hh; have hle := Made.le hh; have hmade := hh; clear hh) | (with_reducible have hrow := Fresh.rowS hh; have hle := Fresh.leS hh; have hfr := hh; clear hh) | (with_reducible have hx := Ext.self hh; clear hx) | (with_reducible have hx := SlV.self hh; clear hx) | (with_reducible have hx := Value.self hh; clear hx) | with_reducible cases hh | skip) | (with_reducible apply AllEq.mk; intro yy hq) | with_reducible apply trivial | with_reducible apply Exists.intro () | (with_reducible apply ex_side; (first | with_reducible assumption | with_reducible apply fracs1 | with_reducible apply fracs2 | with_reducible apply fracs3 | with_reducible apply spans1 | with_reducible apply spans2 | (with_reducible apply NewRow.keep; with_reducible assumption) | (with_reducible apply RowAt.keep; with_reducible assumption) | assumption | (focus ((repeat (first | with_reducible assumption | (with_reducible apply RowAt.le; rotate_left; with_reducible assumption) | (with_reducible apply RowB.le; rotate_left; with_reducible assumption))); done)))) | (with_reducible apply ex_side (a := (_, _)); (focus (with_reducible apply And.intro <;> (focus ((repeat (first | with_reducible assumption | (with_reducible apply RowAt.le; rotate_left; with_reducible assumption) | (with_reducible apply RowB.le; rotate_left; with_reducible assumption))); done))))))); (all_goals (conv => whnf)))
    all_goals try (exfalso; exact h1 (by assumption))
    all_goals try (exfalso; have h3 := of_decide_eq_true (by assumption : decide ((b.size : Int) > 10) = true); omega)
    all_goals try (exfalso; have h3 := of_decide_eq_true (by assumption : decide ((b.size : Int) > 1) = true); have h4 := of_decide_eq_true (by assumption : decide ((c.toNat : Int) = 48) = true); exact hl3 (by rw [hlc, List.head?_cons]; exact congrArg some (UInt8.toNat_inj.1 (by have h5 : (48 : UInt8).toNat = 48 := rfl; omega))) (by omega))
    all_goals (
      refine ⟨fun m s => ∃ (k : Nat) (i z : Int) (acc : Nat) (wg : Nat → AV) (ww : Nat → Value), m = l.length - k ∧ k ≤ l.length ∧ i = (k : Int) ∧ z = (acc : Int) ∧ acc < 10 ^ k ∧ valL 0 l = valL acc (l.drop k) ∧ s = ⟨[.v (.string b), wg 0, wg 1, wg 2, .v (.int .i64 z), .v (.int .i64 i), wg 3, wg 4, wg 5, wg 6, wg 7, wg 8, wg 9, wg 10, wg 11, wg 12, wg 13, wg 14, wg 15, wg 16, wg 17, wg 18, wg 19, wg 20, wg 21, wg 22, wg 23, wg 24, wg 25, wg 26, wg 27, wg 28, wg 29, wg 30, wg 31, wg 32, wg 33, wg 34, wg 35, wg 36, wg 37, wg 38, wg 39, wg 40, wg 41, wg 42, wg 43, wg 44], [], E⟩, ⟨_, 0, _, _, 0, nthA [_, _, _, _, _, _, _, _, _, _, _, _, _, _, _, _, _, _, _, _, _, _, _, _, _, _, _, _, _, _, _, _, _, _, _, _, _, _, _, _, _, _, _, _, _], nthV [], rfl, Nat.zero_le _, rfl, rfl, by decide, rfl, rfl⟩, ?_⟩
      rintro m s ⟨k, i, z, acc, wg, ww, rfl, hk, rfl, rfl, ha, hv, rfl⟩
      have hb : acc < 10000000000 := Nat.lt_of_lt_of_le ha (Nat.pow_le_pow_right (n := 10) (by decide) (by omega : k ≤ 10))
      rcases hlk : l[k]? with _ | d
      · have hge := List.getElem?_eq_none_iff.1 hlk
        rw [List.drop_eq_nil_of_le hge, valL] at hv
        rw [hv]
        (repeat' ((conv => whnf); (first | with_reducible apply And.intro | (with_reducible intro hh; first | (with_reducible have hx := NewRow.self hh; clear hx) | (with_reducible have hrow := Made.row hh; have hle := Made.le hh; have hmade := hh; clear hh) | (with_reducible have hrow := Fresh.rowS hh; have hle := Fresh.leS hh; have hfr := hh; clear hh) | (with_reducible have hx := Ext.self hh; clear hx) | (with_reducible have hx := SlV.self hh; clear hx) | (with_reducible have hx := Value.self hh; clear hx) | with_reducible cases hh | skip) | (with_reducible apply AllEq.mk; intro yy hq) | with_reducible apply trivial | with_reducible apply Exists.intro () | (with_reducible apply ex_side; (first | with_reducible assumption | with_reducible apply fracs1 | with_reducible apply fracs2 | with_reducible apply fracs3 | with_reducible apply spans1 | with_reducible apply spans2 | (with_reducible apply NewRow.keep; with_reducible assumption) | (with_reducible apply RowAt.keep; with_reducible assumption) | assumption | (focus ((repeat (first | with_reducible assumption | (with_reducible apply RowAt.le; rotate_left; with_reducible assumption) | (with_reducible apply RowB.le; rotate_left; with_reducible assumption))); done)))) | (with_reducible apply ex_side (a := (_, _)); (focus (with_reducible apply And.intro <;> (focus ((repeat (first | with_reducible assumption | (with_reducible apply RowAt.le; rotate_left; with_reducible assumption) | (with_reducible apply RowB.le; rotate_left; with_reducible assumption))); done))))))); (all_goals (conv => whnf)))
        (all_goals (try dsimp only [Q.eta, Sn.eta, SlV.eta] at *)); (all_goals (first | exact Side.mk trivial | with_reducible exact Side.mk rfl | exact Side.mk (fun _ _ h => h) | exact Side.mk (Made.le (by assumption)) | refine Side.mk ?_ | refine Don.mk ?_ | skip))
        all_goals first | rfl | (exfalso; have := of_decide_eq_true (by assumption : decide ((k : Int) < (b.size : Int)) = true); omega)
      · have hlt := (List.getElem?_eq_some_iff.1 hlk).1
        have h6 : 0 ≤ (k : Int) ∧ b[(k : Int).toNat]? = some d := ⟨by omega, by rw [ba_get, ← hl]; exact hlk⟩
        rw [drop_some hlk, valL] at hv
        (repeat' ((conv => whnf); (first | with_reducible apply And.intro | (with_reducible intro hh; first | (with_reducible have hx := NewRow.self hh; clear hx) | (with_reducible have hrow := Made.row hh; have hle := Made.le hh; have hmade := hh; clear hh) | (with_reducible have hrow := Fresh.rowS hh; have hle := Fresh.leS hh; have hfr := hh; clear hh) | (with_reducible have hx := Ext.self hh; clear hx) | (with_reducible have hx := SlV.self hh; clear hx) | (with_reducible have hx := Value.self hh; clear hx) | with_reducible cases hh | skip) | (with_reducible apply AllEq.mk; intro yy hq) | with_reducible apply trivial | with_reducible apply Exists.intro () | (with_reducible apply ex_side; (first | with_reducible assumption | with_reducible apply fracs1 | with_reducible apply fracs2 | with_reducible apply fracs3 | with_reducible apply spans1 | with_reducible apply spans2 | (with_reducible apply NewRow.keep; with_reducible assumption) | (with_reducible apply RowAt.keep; with_reducible assumption) | assumption | (focus ((repeat (first | with_reducible assumption | (with_reducible apply RowAt.le; rotate_left; with_reducible assumption) | (with_reducible apply RowB.le; rotate_left; with_reducible assumption))); done)))) | (with_reducible apply ex_side (a := (_, _)); (focus (with_reducible apply And.intro <;> (focus ((repeat (first | with_reducible assumption | (with_reducible apply RowAt.le; rotate_left; with_reducible assumption) | (with_reducible apply RowB.le; rotate_left; with_reducible assumption))); done))))))); (all_goals (conv => whnf)))
        (all_goals (try dsimp only [Q.eta, Sn.eta, SlV.eta] at *)); (all_goals (first | exact Side.mk trivial | with_reducible exact Side.mk rfl | exact Side.mk (fun _ _ h => h) | exact Side.mk (Made.le (by assumption)) | refine Side.mk ?_ | refine Don.mk ?_ | skip))
        all_goals try (exfalso; have := of_decide_eq_false (by assumption : decide ((k : Int) < (b.size : Int)) = false); omega)
        all_goals first
          | (have h7 := of_decide_eq_true (by assumption : decide ((d.toNat : Int) > 57) = true); rw [if_neg (fun h => by have := isD_le.1 h; omega)] at hv; rw [hv]; rfl)
          | (have h7 := of_decide_eq_true (by assumption : decide ((d.toNat : Int) < 48) = true); rw [if_neg (fun h => by have := isD_le.1 h; omega)] at hv; rw [hv]; rfl)
          | skip
        have h8 := of_decide_eq_false (by assumption : decide ((d.toNat : Int) < 48) = false)
        have h9 := of_decide_eq_false (by assumption : decide ((d.toNat : Int) > 57) = false)
        rw [if_pos (isD_le.2 (by omega))] at hv
        refine ⟨l.length - (k + 1), by omega, k + 1, _, _, 10 * acc + (d.toNat - 48), nthA [_, _, _, _, _, _, _, _, _, _, _, _, _, _, _, _, _, _, _, _, _, _, _, _, _, _, _, _, _, _, _, _, _, _, _, _, _, _, _, _, _, _, _, _, _], nthV [], rfl, by omega, ?_, ?_, pow_step ha (by omega), hv, rfl⟩
        · exact (wrap_in (by omega) (by omega)).trans (by omega)
        · exact digit_wrap hb (by omega) (by omega))
/-! with a sign -/
abbrev sgdSp : Sp := .pf T1 (fun x => x.1.size ≤ 1048576) (fun x => .tuple #[.int .i64 (sgnV (bl x.1)).1, .bool (sgnV (bl x.1)).2])
theorem valL_b : ∀ (l : List UInt8) (acc k v : Nat), acc < 10 ^ k → valL acc l = some v → v < 10 ^ (k + l.length)
  | [], acc, k, v, ha, h => by rw [← Option.some.inj h]; exact ha
  | c :: r, acc, k, v, ha, h => by
    rw [valL] at h
    split at h
    · rename_i hd
      have hd := isD_le.1 hd
      have := valL_b r _ (k + 1) v (pow_step ha (by omega)) h
      rw [show k + (c :: r).length = k + 1 + r.length by rw [List.length_cons]; omega]
      exact this
    · cases h
theorem numV_b (s : List UInt8) : 0 ≤ (numV s).1 ∧ (numV s).1 ≤ 10000000000 := by
  unfold numV
  split
  · exact ⟨by decide, by decide⟩
  · rename_i hg
    cases hv : valL 0 s with
    | none => exact ⟨by decide, by decide⟩
    | some n =>
      have h1 := valL_b s 0 0 n (by decide) hv
      have h2 : s.length ≤ 10 := by apply Nat.le_of_not_lt; intro e; exact hg (.inr (.inl e))
      have h3 : 10 ^ (0 + s.length) ≤ 10 ^ 10 := Nat.pow_le_pow_right (by decide) (by omega)
      dsimp only
      omega
theorem u8_eq {c d : UInt8} (h : ((c.toNat : Int) == (d.toNat : Int)) = true) : c = d := UInt8.toNat_inj.1 (by have := of_decide_eq_true h; omega)
theorem u8_ne {c d : UInt8} (h : ((c.toNat : Int) == (d.toNat : Int)) = false) : c ≠ d := fun e => by rw [e] at h; simp at h
theorem tup2 {a b : Int} {p q : Bool} (h : a = b) (k : p = q) : AV.v (.tuple #[.int .i64 a, .bool p]) = AV.v (.tuple #[.int .i64 b, .bool q]) := by rw [h, k]
set_option maxHeartbeats 2000000 in
set_option maxRecDepth 100000 in
theorem sgd_ok : Sp.ok Tryz.prog 107 sgdSp := by
  refine Sp.pf_ok (T := ⟨[(108, numbSp)], []⟩) follows eqok0 ⟨enters Tryz.func108 rfl rfl, numb_ok, trivial⟩ [] Tryz.func107 rfl (by kernel_rfl) _ _ _ fun x E hp => ?_
  obtain ⟨b, u⟩ := x
  dsimp only at hp
  have hsz := ba_len b
  have he : (⟨#[]⟩ : ByteArray).toList = [] := by rw [ba_toList]
  obtain ⟨l, hl⟩ : ∃ l, l = b.data.toList := ⟨_, rfl⟩
  have hbl : bl b = l := hl.symm
  rw [← hl] at hsz
  have hb0 : b.toList = l := by rw [ba_toList, hl]
  cases hlc : l with
  | nil =>
    have h1 : ¬ (!(b.toList == (⟨#[]⟩ : ByteArray).toList)) = true := by rw [hb0, hlc, he]; decide
    (repeat' ((conv => whnf); (first | with_reducible apply And.intro | (with_reducible intro hh; first | (with_reducible have hx := NewRow.self hh; clear hx) | (with_reducible have hrow := Made.row hh; have hle := Made.le hh; have hmade := hh; clear hh) | (with_reducible have hrow := Fresh.rowS hh; have hle := Fresh.leS hh; have hfr := hh; clear hh) | (with_reducible have hx := Ext.self hh; clear hx) | (with_reducible have hx := SlV.self hh; clear hx) | (with_reducible have hx := Value.self hh; clear hx) | with_reducible cases hh | skip) | (with_reducible apply AllEq.mk; intro yy hq) | with_reducible apply trivial | with_reducible apply Exists.intro () | (with_reducible apply ex_side; (first | with_reducible assumption | with_reducible apply fracs1 | with_reducible apply fracs2 | with_reducible apply fracs3 | with_reducible apply spans1 | with_reducible apply spans2 | (with_reducible apply NewRow.keep; with_reducible assumption) | (with_reducible apply RowAt.keep; with_reducible assumption) | assumption | (focus ((repeat (first | with_reducible assumption | (with_reducible apply RowAt.le; rotate_left; with_reducible assumption) | (with_reducible apply RowB.le; rotate_left; with_reducible assumption))); done)))) | (with_reducible apply ex_side (a := (_, _)); (focus (with_reducible apply And.intro <;> (focus ((repeat (first | with_reducible assumption | (with_reducible apply RowAt.le; rotate_left; with_reducible assumption) | (with_reducible apply RowB.le; rotate_left; with_reducible assumption))); done))))))); (all_goals (conv => whnf)))
    (all_goals (try dsimp only [Q.eta, Sn.eta, SlV.eta] at *)); (all_goals (first | exact Side.mk trivial | with_reducible exact Side.mk rfl | exact Side.mk (fun _ _ h => h) | exact Side.mk (Made.le (by assumption)) | refine Side.mk ?_ | refine Don.mk ?_ | skip))
    all_goals try (exfalso; exact h1 (by assumption))
    · exact hp
    · have : sgnV (bl b) = numV (bl b) := by rw [hbl, hlc]; rfl
      rw [this]
  | cons c r =>
    have h1 : ¬ (!(b.toList == (⟨#[]⟩ : ByteArray).toList)) = false := by rw [hb0, hlc, he]; simp
    have h2 : 0 ≤ (0 : Int) ∧ b[Int.toNat 0]? = some c := ⟨by omega, by rw [ba_get, ← hl, hlc]; rfl⟩
    have hx : bl (b.extract (Int.toNat 1) (b.size : Int).toNat) = r := by
      rw [bl, ba_cut, ← hl, hlc]
      show (r.take _) = r
      rw [List.take_of_length_le (by rw [hsz, hlc]; simp)]
    have hb := numV_b r
    have hsx : (b.extract (Int.toNat 1) (b.size : Int).toNat).size ≤ 1048576 := by
      rw [ba_len, ba_cut, List.length_take]
      omega
    rw [hlc, List.length_cons] at hsz
    (repeat' ((conv => whnf); (first | with_reducible apply And.intro | (with_reducible intro hh; first | (with_reducible have hx := NewRow.self hh; clear hx) | (with_reducible have hrow := Made.row hh; have hle := Made.le hh; have hmade := hh; clear hh) | (with_reducible have hrow := Fresh.rowS hh; have hle := Fresh.leS hh; have hfr := hh; clear hh) | (with_reducible have hx := Ext.self hh; clear hx) | (with_reducible have hx := SlV.self hh; clear hx) | (with_reducible have hx := Value.self hh; clear hx) | with_reducible cases hh | skip) | (with_reducible apply AllEq.mk; intro yy hq) | with_reducible apply trivial | with_reducible apply Exists.intro () | (with_reducible apply ex_side; (first | with_reducible assumption | with_reducible apply fracs1 | with_reducible apply fracs2 | with_reducible apply fracs3 | with_reducible apply spans1 | with_reducible apply spans2 | (with_reducible apply NewRow.keep; with_reducible assumption) | (with_reducible apply RowAt.keep; with_reducible assumption) | assumption | (focus ((repeat (first | with_reducible assumption | (with_reducible apply RowAt.le; rotate_left; with_reducible assumption) | (with_reducible apply RowB.le; rotate_left; with_reducible assumption))); done)))) | (with_reducible apply ex_side (a := (_, _)); (focus (with_reducible apply And.intro <;> (focus ((repeat (first | with_reducible assumption | (with_reducible apply RowAt.le; rotate_left; with_reducible assumption) | (with_reducible apply RowB.le; rotate_left; with_reducible assumption))); done))))))); (all_goals (conv => whnf)))
    (all_goals (try dsimp only [Q.eta, Sn.eta, SlV.eta] at *)); (all_goals (first | exact Side.mk trivial | with_reducible exact Side.mk rfl | exact Side.mk (fun _ _ h => h) | exact Side.mk (Made.le (by assumption)) | refine Side.mk ?_ | refine Don.mk ?_ | skip))
    all_goals try (exfalso; exact h1 (by assumption))
    all_goals first | exact hp | exact hsx | exact ⟨by omega, by omega, by omega⟩ | skip
    · have hc := u8_eq (d := 45) (by assumption : ((c.toNat : Int) == 45) = true)
      rw [hx] at hh ⊢
      rw [hbl, hlc, hc]
      exact tup2 ((wrap_in (by omega) (by omega)).trans (by show 0 - _ = -(numV r).1; omega)) (by show _ = ((numV r).2 && decide ((numV r).1 > 0)); rw [hh]; rfl)
    · have hc := u8_eq (d := 45) (by assumption : ((c.toNat : Int) == 45) = true)
      rw [hx] at hh ⊢
      rw [hbl, hlc, hc]
      exact tup2 ((wrap_in (by omega) (by omega)).trans (by show 0 - _ = -(numV r).1; omega)) (by show _ = ((numV r).2 && decide ((numV r).1 > 0)); rw [hh]; rfl)
    · have hc := u8_ne (d := 45) (by assumption : ((c.toNat : Int) == 45) = false)
      have : sgnV (bl b) = numV (bl b) := by
        rw [hbl, hlc, sgnV, if_neg]
        intro h
        exact hc (Option.some.inj h)
      rw [this]

end Go.Proofs.YtadliapkjijahaaGreatDoor
