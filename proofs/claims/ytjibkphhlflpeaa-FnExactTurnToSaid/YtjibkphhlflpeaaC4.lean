/- Contracts of the functions that look through lists of fractions, for all lists that lie in memory; no other condition. -/
import Derived.Test.YtjibkphhlflpeaaAb
import Derived.Test.YtjibkphhlflpeaaC1
import Derived.Test.YtjibkphhlflpeaaProg
set_option linter.unusedVariables false
set_option linter.unusedSimpArgs false
namespace Go.Proofs.Ytjibkphhlflpeaa
open Ab

/-- The place of the first one of which a test holds; -1 if there is none. -/
def firstN {α : Type} (bad : α → Bool) (l : List α) : Int := match l.findIdx? bad with
  | some i => i
  | none => -1
theorem firstN_all {α : Type} {bad : α → Bool} {l : List α} (h : ∀ (i : Nat) (q : α), i < l.length → l[i]? = some q → bad q = false) : firstN bad l = -1 := by
  have h1 : l.findIdx? bad = none := by
    rw [List.findIdx?_eq_none_iff]
    intro q hq
    obtain ⟨i, hi⟩ := List.mem_iff_getElem?.1 hq
    simp [h i q (List.getElem?_eq_some_iff.1 hi).1 hi]
  unfold firstN
  rw [h1]
theorem firstN_at {α : Type} {bad : α → Bool} {l : List α} {k : Nat} {q : α} (h : ∀ (i : Nat) (q : α), i < k → l[i]? = some q → bad q = false) (hk : l[k]? = some q) (hq : bad q = true) : firstN bad l = k := by
  have h1 : l.findIdx? bad = some k := by
    rw [List.findIdx?_eq_some_iff_getElem]
    obtain ⟨hl, he⟩ := List.getElem?_eq_some_iff.1 hk
    refine ⟨hl, by rw [he, hq], fun j hj => ?_⟩
    have := h j l[j] hj (List.getElem?_eq_getElem (by omega))
    simp [this]
  unfold firstN
  rw [h1]
theorem firstN_lt {α : Type} {bad : α → Bool} {l : List α} : decide (firstN bad l ≥ 0) = l.any bad := by
  unfold firstN
  cases h : l.findIdx? bad with
  | none =>
    rw [List.findIdx?_eq_none_iff] at h
    have : l.any bad = false := by
      rw [List.any_eq_false]
      intro q hq
      simpa using h q hq
    rw [this]
    rfl
  | some i =>
    rw [List.findIdx?_eq_some_iff_getElem] at h
    obtain ⟨hl, he, _⟩ := h
    have : l.any bad = true := List.any_eq_true.2 ⟨l[i], List.getElem_mem _, he⟩
    rw [this]
    simp
def allOk (l : List Q) : Bool := l.all okQ
theorem allOk_iff {l : List Q} : allOk l = true ↔ ∀ (i : Nat) (q : Q), l[i]? = some q → okQ q = true := by
  unfold allOk
  rw [List.all_eq_true]
  constructor
  · intro h i q hi
    exact h q (List.mem_of_getElem? hi)
  · intro h q hq
    obtain ⟨i, hi⟩ := List.mem_iff_getElem?.1 hq
    exact h i q hi
theorem any_not {α : Type} (p : α → Bool) (l : List α) : (!l.any fun a => !p a) = l.all p := by
  rw [List.not_any_eq_all_not]
  simp
abbrev FS : ArgL (SlV × Unit) := .cons .slice .nil
abbrev fbadSp : Sp := .pf F1 (fun _ => True) (fun x => .bool (!okQ x.1))
set_option maxRecDepth 100000 in
theorem fbad_ok : Sp.ok Try.prog 55 fbadSp := by
  refine Sp.pf_ok (T := ⟨[(23, validSp)], []⟩) follows eqok0 ⟨enters Try.func23 rfl rfl, valid_ok, trivial⟩ [] Try.func55 rfl (by kernel_rfl) _ _ _ fun x E hp => ?_
  obtain ⟨⟨p, q⟩, u⟩ := x
  (repeat' ((conv => whnf); (first | with_reducible apply And.intro | (with_reducible intro hh; first | (with_reducible have hx := NewRow.self hh; clear hx) | (with_reducible have hrow := Made.row hh; have hle := Made.le hh; have hmade := hh; clear hh) | (with_reducible have hrow := Fresh.rowS hh; have hle := Fresh.leS hh; have hfr := hh; clear hh) | (with_reducible have hx := Ext.self hh; clear hx) | (with_reducible have hx := SlV.self hh; clear hx) | (with_reducible have hx := Value.self hh; clear hx) | with_reducible cases hh | skip) | (with_reducible apply AllEq.mk; intro yy hq) | with_reducible apply trivial | with_reducible apply Exists.intro () | (with_reducible apply ex_side; (first | with_reducible assumption | with_reducible apply fracs1 | with_reducible apply fracs2 | with_reducible apply fracs3 | with_reducible apply spans1 | with_reducible apply spans2 | (with_reducible apply NewRow.keep; with_reducible assumption) | (with_reducible apply RowAt.keep; with_reducible assumption) | assumption | (focus ((repeat (first | with_reducible assumption | (with_reducible apply RowAt.le; rotate_left; with_reducible assumption) | (with_reducible apply RowB.le; rotate_left; with_reducible assumption))); done)))) | (with_reducible apply ex_side (a := (_, _)); (focus (with_reducible apply And.intro <;> (focus ((repeat (first | with_reducible assumption | (with_reducible apply RowAt.le; rotate_left; with_reducible assumption) | (with_reducible apply RowB.le; rotate_left; with_reducible assumption))); done))))))); (all_goals (conv => whnf)))
  (all_goals (try dsimp only [Q.eta, Sn.eta, SlV.eta] at *)); (all_goals (first | exact Side.mk trivial | with_reducible exact Side.mk rfl | exact Side.mk (fun _ _ h => h) | exact Side.mk (Made.le (by assumption)) | refine Side.mk ?_ | refine Don.mk ?_ | skip))
  rfl
abbrev fAF : ArgL (SlV × Unit × Unit) := .cons .slice (.cons (.fnc 55) .nil)
abbrev fidxSp : Sp := .rf fAF (fun x l E => FracsAt x.1 l E) (fun x l => .int .i64 (firstN (fun a => !okQ a) l))
set_option maxRecDepth 100000 in
theorem fidx_ok : Sp.ok Try.prog 59 fidxSp := by
  refine Sp.rf_ok (T := ⟨[(55, fbadSp)], []⟩) follows eqok0 ⟨enters Try.func55 rfl rfl, fbad_ok, trivial⟩ [] Try.func59 rfl (by kernel_rfl) _ _ _ fun x l E hp => ?_
  obtain ⟨⟨sa, n, c⟩, u, u'⟩ := x
  have hq := @FracsAt.at _ _ _ hp
  obtain ⟨hn, hmax, hnone, hat⟩ := hp
  dsimp only at hn hmax hnone hat
  conv => whnf
  refine ⟨fun m s => ∃ (k : Nat) (g5 g9 g10 g11 g12 g13 g14 g15 g16 g17 g18 : AV), m = l.length - k ∧ k ≤ l.length ∧ (∀ i q, i < k → l[i]? = some q → (fun a => !okQ a) q = false) ∧
    s = ⟨[.v (.slice sa n c), .v (.func (.func 55) #[] #[]), .v (.tuple #[]), .v (.tuple #[]), .v (.int .i64 0), g5, .v (.slice sa n c), .v (.int .i64 n), .v (.int .i64 k), g9, g10, g11, g12, g13, g14, g15, g16, g17, g18], [], E⟩,
    ⟨_, 0, _, _, _, _, _, _, _, _, _, _, _, rfl, Nat.zero_le _, fun i q hi => absurd hi (Nat.not_lt_zero _), rfl⟩, ?_⟩
  rintro m s ⟨k, g5, g9, g10, g11, g12, g13, g14, g15, g16, g17, g18, rfl, hk, hv, rfl⟩
  have hb : ∀ i q, l[i]? = some q → i < l.length := fun i q h => (List.getElem?_eq_some_iff.1 h).1
  cases sa with
  | none =>
    obtain rfl := hnone rfl
    (repeat' ((conv => whnf); (first | with_reducible apply And.intro | (with_reducible intro hh; first | (with_reducible have hx := NewRow.self hh; clear hx) | (with_reducible have hrow := Made.row hh; have hle := Made.le hh; have hmade := hh; clear hh) | (with_reducible have hrow := Fresh.rowS hh; have hle := Fresh.leS hh; have hfr := hh; clear hh) | (with_reducible have hx := Ext.self hh; clear hx) | (with_reducible have hx := SlV.self hh; clear hx) | (with_reducible have hx := Value.self hh; clear hx) | with_reducible cases hh | skip) | (with_reducible apply AllEq.mk; intro yy hq) | with_reducible apply trivial | with_reducible apply Exists.intro () | (with_reducible apply ex_side; (first | with_reducible assumption | with_reducible apply fracs1 | with_reducible apply fracs2 | with_reducible apply fracs3 | with_reducible apply spans1 | with_reducible apply spans2 | (with_reducible apply NewRow.keep; with_reducible assumption) | (with_reducible apply RowAt.keep; with_reducible assumption) | assumption | (focus ((repeat (first | with_reducible assumption | (with_reducible apply RowAt.le; rotate_left; with_reducible assumption) | (with_reducible apply RowB.le; rotate_left; with_reducible assumption))); done)))) | (with_reducible apply ex_side (a := (_, _)); (focus (with_reducible apply And.intro <;> (focus ((repeat (first | with_reducible assumption | (with_reducible apply RowAt.le; rotate_left; with_reducible assumption) | (with_reducible apply RowB.le; rotate_left; with_reducible assumption))); done))))))); (all_goals (conv => whnf)))
    (all_goals (try dsimp only [Q.eta, Sn.eta, SlV.eta] at *)); (all_goals (first | exact Side.mk trivial | with_reducible exact Side.mk rfl | exact Side.mk (fun _ _ h => h) | exact Side.mk (Made.le (by assumption)) | refine Side.mk ?_ | refine Don.mk ?_ | skip))
    · have := of_decide_eq_true hh
      simp only [List.length_nil] at hn
      omega
    · rfl
  | some a =>
    rcases hkl : l[k]? with _ | q
    · have hge : l.length ≤ k := List.getElem?_eq_none_iff.1 hkl
      (repeat' ((conv => whnf); (first | with_reducible apply And.intro | (with_reducible intro hh; first | (with_reducible have hx := NewRow.self hh; clear hx) | (with_reducible have hrow := Made.row hh; have hle := Made.le hh; have hmade := hh; clear hh) | (with_reducible have hrow := Fresh.rowS hh; have hle := Fresh.leS hh; have hfr := hh; clear hh) | (with_reducible have hx := Ext.self hh; clear hx) | (with_reducible have hx := SlV.self hh; clear hx) | (with_reducible have hx := Value.self hh; clear hx) | with_reducible cases hh | skip) | (with_reducible apply AllEq.mk; intro yy hq) | with_reducible apply trivial | with_reducible apply Exists.intro () | (with_reducible apply ex_side; (first | with_reducible assumption | with_reducible apply fracs1 | with_reducible apply fracs2 | with_reducible apply fracs3 | with_reducible apply spans1 | with_reducible apply spans2 | (with_reducible apply NewRow.keep; with_reducible assumption) | (with_reducible apply RowAt.keep; with_reducible assumption) | assumption | (focus ((repeat (first | with_reducible assumption | (with_reducible apply RowAt.le; rotate_left; with_reducible assumption) | (with_reducible apply RowB.le; rotate_left; with_reducible assumption))); done)))) | (with_reducible apply ex_side (a := (_, _)); (focus (with_reducible apply And.intro <;> (focus ((repeat (first | with_reducible assumption | (with_reducible apply RowAt.le; rotate_left; with_reducible assumption) | (with_reducible apply RowB.le; rotate_left; with_reducible assumption))); done))))))); (all_goals (conv => whnf)))
      (all_goals (try dsimp only [Q.eta, Sn.eta, SlV.eta] at *)); (all_goals (first | exact Side.mk trivial | with_reducible exact Side.mk rfl | exact Side.mk (fun _ _ h => h) | exact Side.mk (Made.le (by assumption)) | refine Side.mk ?_ | refine Don.mk ?_ | skip))
      all_goals try (have := of_decide_eq_true hh; omega)
      rw [firstN_all fun i q hi => hv i q (by omega)]
    · obtain ⟨h0, h1⟩ := hq rfl hkl
      have hlt := hb _ _ hkl
      (repeat' ((conv => whnf); (first | with_reducible apply And.intro | (with_reducible intro hh; first | (with_reducible have hx := NewRow.self hh; clear hx) | (with_reducible have hrow := Made.row hh; have hle := Made.le hh; have hmade := hh; clear hh) | (with_reducible have hrow := Fresh.rowS hh; have hle := Fresh.leS hh; have hfr := hh; clear hh) | (with_reducible have hx := Ext.self hh; clear hx) | (with_reducible have hx := SlV.self hh; clear hx) | (with_reducible have hx := Value.self hh; clear hx) | with_reducible cases hh | skip) | (with_reducible apply AllEq.mk; intro yy hq) | with_reducible apply trivial | with_reducible apply Exists.intro () | (with_reducible apply ex_side; (first | with_reducible assumption | with_reducible apply fracs1 | with_reducible apply fracs2 | with_reducible apply fracs3 | with_reducible apply spans1 | with_reducible apply spans2 | (with_reducible apply NewRow.keep; with_reducible assumption) | (with_reducible apply RowAt.keep; with_reducible assumption) | assumption | (focus ((repeat (first | with_reducible assumption | (with_reducible apply RowAt.le; rotate_left; with_reducible assumption) | (with_reducible apply RowB.le; rotate_left; with_reducible assumption))); done)))) | (with_reducible apply ex_side (a := (_, _)); (focus (with_reducible apply And.intro <;> (focus ((repeat (first | with_reducible assumption | (with_reducible apply RowAt.le; rotate_left; with_reducible assumption) | (with_reducible apply RowB.le; rotate_left; with_reducible assumption))); done))))))); (all_goals (conv => whnf)))
      (all_goals (try dsimp only [Q.eta, Sn.eta, SlV.eta] at *)); (all_goals (first | exact Side.mk trivial | with_reducible exact Side.mk rfl | exact Side.mk (fun _ _ h => h) | exact Side.mk (Made.le (by assumption)) | refine Side.mk ?_ | refine Don.mk ?_ | skip))
      · omega
      · rw [firstN_at hv hkl hh]
      · have hok : (fun a => !okQ a) q = false := hh
        refine ⟨_, ?_, k + 1, _, _, _, _, _, _, _, _, _, _, _, rfl, hlt, fun i q' hi hq' => ?_, by rw [wrap_succ (n := n) (by omega) hmax]⟩
        · omega
        · by_cases hik : i = k
          · subst hik
            rw [hkl] at hq'
            cases hq'
            exact hok
          · exact hv i q' (by omega) hq'
      · have := of_decide_eq_false hh
        omega
abbrev fhasSp : Sp := .rf fAF (fun x l E => FracsAt x.1 l E) (fun x l => .bool (l.any (fun a => !okQ a)))
set_option maxRecDepth 100000 in
theorem fhas_ok : Sp.ok Try.prog 54 fhasSp := by
  refine Sp.rf_ok (T := ⟨[(59, fidxSp)], []⟩) follows eqok0 ⟨enters Try.func59 rfl rfl, fidx_ok, trivial⟩ [] Try.func54 rfl (by kernel_rfl) _ _ _ fun x l E hp => ?_
  obtain ⟨⟨sa, n, c⟩, u, u'⟩ := x
  (repeat' ((conv => whnf); (first | with_reducible apply And.intro | (with_reducible intro hh; first | (with_reducible have hx := NewRow.self hh; clear hx) | (with_reducible have hrow := Made.row hh; have hle := Made.le hh; have hmade := hh; clear hh) | (with_reducible have hrow := Fresh.rowS hh; have hle := Fresh.leS hh; have hfr := hh; clear hh) | (with_reducible have hx := Ext.self hh; clear hx) | (with_reducible have hx := SlV.self hh; clear hx) | (with_reducible have hx := Value.self hh; clear hx) | with_reducible cases hh | skip) | (with_reducible apply AllEq.mk; intro yy hq) | with_reducible apply trivial | with_reducible apply Exists.intro () | (with_reducible apply ex_side; (first | with_reducible assumption | with_reducible apply fracs1 | with_reducible apply fracs2 | with_reducible apply fracs3 | with_reducible apply spans1 | with_reducible apply spans2 | (with_reducible apply NewRow.keep; with_reducible assumption) | (with_reducible apply RowAt.keep; with_reducible assumption) | assumption | (focus ((repeat (first | with_reducible assumption | (with_reducible apply RowAt.le; rotate_left; with_reducible assumption) | (with_reducible apply RowB.le; rotate_left; with_reducible assumption))); done)))) | (with_reducible apply ex_side (a := (_, _)); (focus (with_reducible apply And.intro <;> (focus ((repeat (first | with_reducible assumption | (with_reducible apply RowAt.le; rotate_left; with_reducible assumption) | (with_reducible apply RowB.le; rotate_left; with_reducible assumption))); done))))))); (all_goals (conv => whnf)))
  (all_goals (try dsimp only [Q.eta, Sn.eta, SlV.eta] at *)); (all_goals (first | exact Side.mk trivial | with_reducible exact Side.mk rfl | exact Side.mk (fun _ _ h => h) | exact Side.mk (Made.le (by assumption)) | refine Side.mk ?_ | refine Don.mk ?_ | skip))
  exact congrArg (fun b => AV.v (.bool b)) firstN_lt

abbrev areSp : Sp := .rf FS (fun x l E => FracsAt x.1 l E) (fun x l => .bool (allOk l))
set_option maxRecDepth 100000 in
theorem are_ok : Sp.ok Try.prog 42 areSp := by
  refine Sp.rf_ok (T := ⟨[(54, fhasSp)], []⟩) follows eqok0 ⟨enters Try.func54 rfl rfl, fhas_ok, trivial⟩ [] Try.func42 rfl (by kernel_rfl) _ _ _ fun x l E hp => ?_
  obtain ⟨⟨sa, n, c⟩, u⟩ := x
  (repeat' ((conv => whnf); (first | with_reducible apply And.intro | (with_reducible intro hh; first | (with_reducible have hx := NewRow.self hh; clear hx) | (with_reducible have hrow := Made.row hh; have hle := Made.le hh; have hmade := hh; clear hh) | (with_reducible have hrow := Fresh.rowS hh; have hle := Fresh.leS hh; have hfr := hh; clear hh) | (with_reducible have hx := Ext.self hh; clear hx) | (with_reducible have hx := SlV.self hh; clear hx) | (with_reducible have hx := Value.self hh; clear hx) | with_reducible cases hh | skip) | (with_reducible apply AllEq.mk; intro yy hq) | with_reducible apply trivial | with_reducible apply Exists.intro () | (with_reducible apply ex_side; (first | with_reducible assumption | with_reducible apply fracs1 | with_reducible apply fracs2 | with_reducible apply fracs3 | with_reducible apply spans1 | with_reducible apply spans2 | (with_reducible apply NewRow.keep; with_reducible assumption) | (with_reducible apply RowAt.keep; with_reducible assumption) | assumption | (focus ((repeat (first | with_reducible assumption | (with_reducible apply RowAt.le; rotate_left; with_reducible assumption) | (with_reducible apply RowB.le; rotate_left; with_reducible assumption))); done)))) | (with_reducible apply ex_side (a := (_, _)); (focus (with_reducible apply And.intro <;> (focus ((repeat (first | with_reducible assumption | (with_reducible apply RowAt.le; rotate_left; with_reducible assumption) | (with_reducible apply RowB.le; rotate_left; with_reducible assumption))); done))))))); (all_goals (conv => whnf)))
  (all_goals (try dsimp only [Q.eta, Sn.eta, SlV.eta] at *)); (all_goals (first | exact Side.mk trivial | with_reducible exact Side.mk rfl | exact Side.mk (fun _ _ h => h) | exact Side.mk (Made.le (by assumption)) | refine Side.mk ?_ | refine Don.mk ?_ | skip))
  rw [any_not]
  rfl

end Go.Proofs.Ytjibkphhlflpeaa
