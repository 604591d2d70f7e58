/- Contracts of the functions that look through lists of fractions, for all lists that lie in memory; no other condition. -/
import Derived.Test.YtgabjddochcehaaAb
import Derived.Test.YtgabjddochcehaaC1
import Derived.Test.YtgabjddochcehaaProg
set_option linter.unusedVariables false
set_option linter.unusedSimpArgs false
namespace Go.Proofs.Ytgabjddochcehaa
open Ab

abbrev badSp : Sp := .pf F1 (fun _ => True) (fun x => .bool (!okQ x.1))
set_option maxRecDepth 100000 in
theorem bad1_ok : Sp.ok Try.prog 91 badSp := by
  refine Sp.pf_ok (T := [(72, validSp)]) follows eqok0 ⟨enters Try.func72 rfl rfl, valid_ok, trivial⟩ [] Try.func91 rfl (by kernel_rfl) _ _ _ fun x E hp => ?_
  obtain ⟨⟨p, q⟩, u⟩ := x
  (repeat' ((conv => whnf); (first | with_reducible apply And.intro | (with_reducible intro hh; first | (with_reducible have hx := NewRow.self hh; clear hx) | with_reducible cases hh | (with_reducible have hx := Ext.self_of hh; clear hx hh) | skip) | with_reducible apply trivial | with_reducible apply Exists.intro () | (with_reducible apply ex_side; (first | with_reducible assumption | with_reducible apply fracs1 | with_reducible apply fracs2 | with_reducible apply fracs3 | (with_reducible apply NewRow.keep; with_reducible assumption) | (with_reducible apply FracsAt.keep; with_reducible assumption) | assumption)))); (all_goals (conv => whnf)))
  (all_goals (try dsimp only at *)); (all_goals (first | exact Side.mk trivial | with_reducible exact Side.mk rfl | refine Side.mk ?_ | refine Don.mk ?_ | skip))
  rfl
def firstBad (l : List Q) : Int := match l.findIdx? (fun a => !okQ a) with
  | some i => i
  | none => -1
theorem firstBad_all {l : List Q} (h : ∀ (i : Nat) (q : Q), i < l.length → l[i]? = some q → okQ q = true) : firstBad l = -1 := by
  have h1 : l.findIdx? (fun a => !okQ a) = none := by
    rw [List.findIdx?_eq_none_iff]
    intro q hq
    obtain ⟨i, hi⟩ := List.mem_iff_getElem?.1 hq
    simp [h i q (List.getElem?_eq_some_iff.1 hi).1 hi]
  unfold firstBad
  rw [h1]
theorem firstBad_at {l : List Q} {k : Nat} {q : Q} (h : ∀ (i : Nat) (q : Q), i < k → l[i]? = some q → okQ q = true) (hk : l[k]? = some q) (hq : okQ q = false) : firstBad l = k := by
  have h1 : l.findIdx? (fun a => !okQ a) = some k := by
    rw [List.findIdx?_eq_some_iff_getElem]
    obtain ⟨hl, he⟩ := List.getElem?_eq_some_iff.1 hk
    refine ⟨hl, by rw [he, hq]; rfl, fun j hj => ?_⟩
    have := h j l[j] hj (List.getElem?_eq_getElem (by omega))
    simp [this]
  unfold firstBad
  rw [h1]
abbrev AF : ArgL (SlV × Unit × Unit) := .cons .slice (.cons (.fnc 91) .nil)
abbrev idxSp : Sp := .rf AF (fun x l E => FracsAt x.1 l E) (fun x l => .int .i64 (firstBad l))
set_option maxRecDepth 100000 in
theorem idx_ok : Sp.ok Try.prog 101 idxSp := by
  refine Sp.rf_ok (T := [(91, badSp)]) follows eqok0 ⟨enters Try.func91 rfl rfl, bad1_ok, trivial⟩ [] Try.func101 rfl (by kernel_rfl) _ _ _ fun x l E hp => ?_
  obtain ⟨⟨sa, n, c⟩, u, u'⟩ := x
  have hq := @FracsAt.at _ _ _ hp
  obtain ⟨hn, hmax, hnone, hat⟩ := hp
  dsimp only at hn hmax hnone hat
  conv => whnf
  refine ⟨fun m s => ∃ (k : Nat) (g5 g9 g10 g11 g12 g13 g14 g15 g16 g17 g18 : AV), m = l.length - k ∧ k ≤ l.length ∧ (∀ i q, i < k → l[i]? = some q → okQ q = true) ∧
    s = ⟨[.v (.slice sa n c), .v (.func (.func 91) #[] #[]), .v (.tuple #[]), .v (.tuple #[]), .v (.int .i64 0), g5, .v (.slice sa n c), .v (.int .i64 n), .v (.int .i64 k), g9, g10, g11, g12, g13, g14, g15, g16, g17, g18], [], E⟩,
    ⟨_, 0, _, _, _, _, _, _, _, _, _, _, _, rfl, Nat.zero_le _, fun i q hi => absurd hi (Nat.not_lt_zero _), rfl⟩, ?_⟩
  rintro m s ⟨k, g5, g9, g10, g11, g12, g13, g14, g15, g16, g17, g18, rfl, hk, hv, rfl⟩
  have hb : ∀ i q, l[i]? = some q → i < l.length := fun i q h => (List.getElem?_eq_some_iff.1 h).1
  cases sa with
  | none =>
    obtain rfl := hnone rfl
    (repeat' ((conv => whnf); (first | with_reducible apply And.intro | (with_reducible intro hh; first | (with_reducible have hx := NewRow.self hh; clear hx) | with_reducible cases hh | (with_reducible have hx := Ext.self_of hh; clear hx hh) | skip) | with_reducible apply trivial | with_reducible apply Exists.intro () | (with_reducible apply ex_side; (first | with_reducible assumption | with_reducible apply fracs1 | with_reducible apply fracs2 | with_reducible apply fracs3 | (with_reducible apply NewRow.keep; with_reducible assumption) | (with_reducible apply FracsAt.keep; with_reducible assumption) | assumption)))); (all_goals (conv => whnf)))
    (all_goals (try dsimp only at *)); (all_goals (first | exact Side.mk trivial | with_reducible exact Side.mk rfl | refine Side.mk ?_ | refine Don.mk ?_ | skip))
    · have := of_decide_eq_true hh
      simp only [List.length_nil] at hn
      omega
    · rfl
  | some a =>
    rcases hkl : l[k]? with _ | q
    · have hge : l.length ≤ k := List.getElem?_eq_none_iff.1 hkl
      (repeat' ((conv => whnf); (first | with_reducible apply And.intro | (with_reducible intro hh; first | (with_reducible have hx := NewRow.self hh; clear hx) | with_reducible cases hh | (with_reducible have hx := Ext.self_of hh; clear hx hh) | skip) | with_reducible apply trivial | with_reducible apply Exists.intro () | (with_reducible apply ex_side; (first | with_reducible assumption | with_reducible apply fracs1 | with_reducible apply fracs2 | with_reducible apply fracs3 | (with_reducible apply NewRow.keep; with_reducible assumption) | (with_reducible apply FracsAt.keep; with_reducible assumption) | assumption)))); (all_goals (conv => whnf)))
      (all_goals (try dsimp only at *)); (all_goals (first | exact Side.mk trivial | with_reducible exact Side.mk rfl | refine Side.mk ?_ | refine Don.mk ?_ | skip))
      all_goals try (have := of_decide_eq_true hh; omega)
      rw [firstBad_all fun i q hi => hv i q (by omega)]
    · obtain ⟨h0, h1⟩ := hq rfl hkl
      have hlt := hb _ _ hkl
      (repeat' ((conv => whnf); (first | with_reducible apply And.intro | (with_reducible intro hh; first | (with_reducible have hx := NewRow.self hh; clear hx) | with_reducible cases hh | (with_reducible have hx := Ext.self_of hh; clear hx hh) | skip) | with_reducible apply trivial | with_reducible apply Exists.intro () | (with_reducible apply ex_side; (first | with_reducible assumption | with_reducible apply fracs1 | with_reducible apply fracs2 | with_reducible apply fracs3 | (with_reducible apply NewRow.keep; with_reducible assumption) | (with_reducible apply FracsAt.keep; with_reducible assumption) | assumption)))); (all_goals (conv => whnf)))
      (all_goals (try dsimp only at *)); (all_goals (first | exact Side.mk trivial | with_reducible exact Side.mk rfl | refine Side.mk ?_ | refine Don.mk ?_ | skip))
      · omega
      · rw [firstBad_at hv hkl (by simpa using hh)]
      · have hok : okQ q = true := by simpa using hh
        refine ⟨_, ?_, k + 1, _, _, _, _, _, _, _, _, _, _, _, rfl, hlt, fun i q' hi hq' => ?_, by rw [wrap_succ (n := n) (by omega) hmax]⟩
        · omega
        · by_cases hik : i = k
          · subst hik
            rw [hkl] at hq'
            cases hq'
            exact hok
          · exact hv i q' (by omega) hq'
      · have := of_decide_eq_false hh
        omega
def allOk (l : List Q) : Bool := l.all okQ
theorem allOk_iff {l : List Q} : allOk l = true ↔ ∀ (i : Nat) (q : Q), l[i]? = some q → okQ q = true := by
  unfold allOk
  rw [List.all_eq_true]
  constructor
  · intro h i q hi
    exact h q (List.mem_of_getElem? hi)
  · intro h q hq
    obtain ⟨i, hi⟩ := List.mem_iff_getElem?.1 hq
    exact h i q hi
theorem firstBad_lt {l : List Q} : decide (firstBad l ≥ 0) = !allOk l := by
  unfold firstBad
  cases h : l.findIdx? (fun a => !okQ a) with
  | none =>
    rw [List.findIdx?_eq_none_iff] at h
    have : allOk l = true := by
      unfold allOk
      rw [List.all_eq_true]
      intro q hq
      simpa using h q hq
    rw [this]
    rfl
  | some i =>
    rw [List.findIdx?_eq_some_iff_getElem] at h
    obtain ⟨hl, he, _⟩ := h
    have : allOk l = false := by
      rw [Bool.eq_false_iff]
      intro hh
      have := allOk_iff.1 hh i _ (List.getElem?_eq_getElem hl)
      rw [this] at he
      cases he
    rw [this]
    simp
abbrev hasSp : Sp := .rf AF (fun x l E => FracsAt x.1 l E) (fun x l => .bool (!allOk l))
set_option maxRecDepth 100000 in
theorem has_ok : Sp.ok Try.prog 90 hasSp := by
  refine Sp.rf_ok (T := [(101, idxSp)]) follows eqok0 ⟨enters Try.func101 rfl rfl, idx_ok, trivial⟩ [] Try.func90 rfl (by kernel_rfl) _ _ _ fun x l E hp => ?_
  obtain ⟨⟨sa, n, c⟩, u, u'⟩ := x
  (repeat' ((conv => whnf); (first | with_reducible apply And.intro | (with_reducible intro hh; first | (with_reducible have hx := NewRow.self hh; clear hx) | with_reducible cases hh | (with_reducible have hx := Ext.self_of hh; clear hx hh) | skip) | with_reducible apply trivial | with_reducible apply Exists.intro () | (with_reducible apply ex_side; (first | with_reducible assumption | with_reducible apply fracs1 | with_reducible apply fracs2 | with_reducible apply fracs3 | (with_reducible apply NewRow.keep; with_reducible assumption) | (with_reducible apply FracsAt.keep; with_reducible assumption) | assumption)))); (all_goals (conv => whnf)))
  (all_goals (try dsimp only at *)); (all_goals (first | exact Side.mk trivial | with_reducible exact Side.mk rfl | refine Side.mk ?_ | refine Don.mk ?_ | skip))
  exact congrArg (fun b => AV.v (.bool b)) firstBad_lt
abbrev FS : ArgL (SlV × Unit) := .cons .slice .nil
abbrev areSp : Sp := .rf FS (fun x l E => FracsAt x.1 l E) (fun x l => .bool (allOk l))
set_option maxRecDepth 100000 in
theorem are_ok : Sp.ok Try.prog 64 areSp := by
  refine Sp.rf_ok (T := [(90, hasSp)]) follows eqok0 ⟨enters Try.func90 rfl rfl, has_ok, trivial⟩ [] Try.func64 rfl (by kernel_rfl) _ _ _ fun x l E hp => ?_
  obtain ⟨⟨sa, n, c⟩, u⟩ := x
  (repeat' ((conv => whnf); (first | with_reducible apply And.intro | (with_reducible intro hh; first | (with_reducible have hx := NewRow.self hh; clear hx) | with_reducible cases hh | (with_reducible have hx := Ext.self_of hh; clear hx hh) | skip) | with_reducible apply trivial | with_reducible apply Exists.intro () | (with_reducible apply ex_side; (first | with_reducible assumption | with_reducible apply fracs1 | with_reducible apply fracs2 | with_reducible apply fracs3 | (with_reducible apply NewRow.keep; with_reducible assumption) | (with_reducible apply FracsAt.keep; with_reducible assumption) | assumption)))); (all_goals (conv => whnf)))
  (all_goals (try dsimp only at *)); (all_goals (first | exact Side.mk trivial | with_reducible exact Side.mk rfl | refine Side.mk ?_ | refine Don.mk ?_ | skip))
  simp

end Go.Proofs.Ytgabjddochcehaa
