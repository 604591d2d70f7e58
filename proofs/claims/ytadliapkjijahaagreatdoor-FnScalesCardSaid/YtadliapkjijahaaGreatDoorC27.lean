/- Contracts of the functions that compare scales, for all scales that lie in memory; no other condition. -/
import Derived.Test.YtadliapkjijahaaGreatDoorAb
import Derived.Test.YtadliapkjijahaaGreatDoorC1
import Derived.Test.YtadliapkjijahaaGreatDoorC2
import Derived.Test.YtadliapkjijahaaGreatDoorC3
import Derived.Test.YtadliapkjijahaaGreatDoorC4
import Derived.Test.YtadliapkjijahaaGreatDoorC5
import Derived.Test.YtadliapkjijahaaGreatDoorCL
import Derived.Test.YtadliapkjijahaaGreatDoorC6
import Derived.Test.YtadliapkjijahaaGreatDoorC7
import Derived.Test.YtadliapkjijahaaGreatDoorC8
import Derived.Test.YtadliapkjijahaaGreatDoorC9
import Derived.Test.YtadliapkjijahaaGreatDoorCO
import Derived.Test.YtadliapkjijahaaGreatDoorC12
import Derived.Test.YtadliapkjijahaaGreatDoorC14
import Derived.Test.YtadliapkjijahaaGreatDoorProg
import Derived.Laws.StructEq
set_option linter.unusedVariables false
set_option linter.unusedSimpArgs false
namespace Go.Proofs.YtadliapkjijahaaGreatDoor
open Ab

section
variable {P : Program}
theorem eqCells1 {x : Value} {m n : List Value} {r : Bool} (h : eqCells (x :: m) n = some r) : ∃ j a c n' r', x = .int j a ∧ n = .int j c :: n' ∧ eqCells m n' = some r' ∧ r = ((a == c) && r') := by
  unfold eqCells at h
  split at h
  · rename_i heq
    cases heq
  · rename_i _ j a r0 k b q heq
    cases heq
    split at h
    · rename_i t hjk ht
      cases h
      have : j = k := by simpa using hjk
      subst this
      exact ⟨j, a, b, q, t, rfl, rfl, ht, rfl⟩
    · cases h
  · cases h
theorem eqCells0 {n : List Value} {r : Bool} (h : eqCells [] n = some r) : n = [] ∧ r = true := by
  unfold eqCells at h
  split at h
  · cases h; exact ⟨rfl, rfl⟩
  · rename_i heq; cases heq
  · cases h
theorem eqCells2 {m n : List Value} {r : Bool} (hl : m.length = 2) (h : eqCells m n = some r) : ∃ j j' a b c d, m = [.int j a, .int j' b] ∧ n = [.int j c, .int j' d] ∧ r = ((a == c) && (b == d)) := by
  match m, hl with
  | [x, y], _ =>
    obtain ⟨j, a, c, n', r', rfl, rfl, h1, rfl⟩ := eqCells1 h
    obtain ⟨j', b, d, n2, r2, rfl, rfl, h2, rfl⟩ := eqCells1 h1
    obtain ⟨rfl, rfl⟩ := eqCells0 h2
    exact ⟨j, j', a, b, c, d, rfl, rfl, by simp⟩
end
theorem run_part1 {xs : Array Value} {t : TypeId} {o : Nat} {v : Value} (w : World) (ht : ∀ w, (isAgg t).run Tryz.prog w = .ok false w) (h : xs[o]? = some v) : (part t xs o).run Tryz.prog w = .ok v w := by
  unfold part
  rw [Sem.run_bind, ht]
  simp only [Result.andThen_ok, Bool.false_eq_true, if_false, h, Sem.run_pure]
theorem eq_frac (d : Nat) (w : World) (j j' : IntKind) (a b c e : Int) : (Op.equalIn (d + 2) 25 (.agg #[.int j a, .int j' b]) (.agg #[.int j c, .int j' e])).run Tryz.prog w = .ok ((a == c) && (b == e)) w := by
  have hi : ∀ w, (isAgg 2).run Tryz.prog w = .ok false w := fun w => prun_none (by kernel_rfl) w
  rw [run_equalIn_agg w (d + 1) 25 _ _ (by kernel_rfl) (by kernel_rfl)]
  have hf : (Program.fieldsOf Tryz.prog 25).toList = (match Tryz.prog.underlying 25 with | some (.struct fs) => fs.toList | _ => []) := by kernel_rfl
  rw [hf]
  rw [Tryz.underlying25]
  simp [Op.eqFields, run_part1 _ hi, run_equalIn_int _ _ _ _ _ _ _ Tryz.underlying2, Result.andThen]
  by_cases h1 : a = c <;> by_cases h2 : b = e <;> simp [h1, h2]
abbrev eqF : List (TypeId × Nat) := [(25, 2)]
theorem eqokF : EqOk Tryz.prog eqF := by
  intro t m n r h x y w
  unfold eqF eqOf at h
  split at h
  · rename_i hb
    rw [Bool.and_eq_true] at hb
    obtain ⟨j, j', a, b, c, d, rfl, rfl, rfl⟩ := eqCells2 (Nat.eq_of_beq_eq_true hb.2) h
    obtain rfl := Nat.eq_of_beq_eq_true hb.1
    have hg : Program.eqGuardType Tryz.prog (Program.depth Tryz.prog) 25 = false := by kernel_rfl
    refine ⟨?_, ?_⟩
    · rw [Sem.run_bind, run_eqGuard_agg w .eql _ x y _ _ hg]
      simp only [Result.andThen_ok, run_eql_struct, eq_frac 9998]
    · rw [Sem.run_bind, run_eqGuard_agg w .neq _ x y _ _ hg]
      simp only [Result.andThen_ok, run_neq_struct, eq_frac 9998]
  · simp [eqOf] at h

abbrev frequSp : Sp := .rf SS (fun x (l : List Q × List Q) E => RowAt Q.cells 2 x.1 l.1 E ∧ RowAt Q.cells 2 x.2.1 l.2 E) (fun _ l => .bool (decide (l.1 = l.2)))
set_option maxHeartbeats 2000000 in
set_option maxRecDepth 100000 in
theorem frequ_ok : Sp.ok Tryz.prog 87 frequSp := by
  refine Sp.rf_ok (T := ⟨[], []⟩) follows eqokF trivial [(6, .take 0 (.take 1 (.take 2 (.take 3 (.take 4 (.take 5 (.take 6 (.take 7 (.take 8 (.done))))))))))] Tryz.func87 rfl (by kernel_rfl) _ _ _ fun x l E hp => ?_
  obtain ⟨⟨sa, n, c⟩, ⟨sa', n', c'⟩, u⟩ := x
  obtain ⟨l, l'⟩ := l
  obtain ⟨hp, hp'⟩ := hp
  have hp1 := hp
  have hp1' := hp'
  obtain ⟨hn, hmax, hnone, _⟩ := hp
  obtain ⟨hn', hmax', hnone', _⟩ := hp'
  dsimp only at hn hmax hnone hn' hmax' hnone' hp1 hp1'
  (repeat' ((conv => whnf); (first | with_reducible apply And.intro | (with_reducible intro hh; first | (with_reducible have hx := NewRow.self hh; clear hx) | (with_reducible have hrow := Made.row hh; have hle := Made.le hh; have hmade := hh; clear hh) | (with_reducible have hrow := Fresh.rowS hh; have hle := Fresh.leS hh; have hfr := hh; clear hh) | (with_reducible have hx := Ext.self hh; clear hx) | (with_reducible have hx := SlV.self hh; clear hx) | (with_reducible have hx := Value.self hh; clear hx) | with_reducible cases hh | skip) | (with_reducible apply AllEq.mk; intro yy hq) | with_reducible apply trivial | with_reducible apply Exists.intro () | (with_reducible apply ex_side; (first | with_reducible assumption | with_reducible apply fracs1 | with_reducible apply fracs2 | with_reducible apply fracs3 | with_reducible apply spans1 | with_reducible apply spans2 | (with_reducible apply NewRow.keep; with_reducible assumption) | (with_reducible apply RowAt.keep; with_reducible assumption) | assumption | (focus ((repeat (first | with_reducible assumption | (with_reducible apply RowAt.le; rotate_left; with_reducible assumption) | (with_reducible apply RowB.le; rotate_left; with_reducible assumption))); done)))) | (with_reducible apply ex_side (a := (_, _)); (focus (with_reducible apply And.intro <;> (focus ((repeat (first | with_reducible assumption | (with_reducible apply RowAt.le; rotate_left; with_reducible assumption) | (with_reducible apply RowB.le; rotate_left; with_reducible assumption))); done))))))); (all_goals (conv => whnf)))
  (all_goals (try dsimp only [Q.eta, Sn.eta, SlV.eta] at *)); (all_goals (first | exact Side.mk trivial | with_reducible exact Side.mk rfl | exact Side.mk (fun _ _ h => h) | exact Side.mk (Made.le (by assumption)) | refine Side.mk ?_ | refine Don.mk ?_ | skip))
  · have : l ≠ l' := fun e => by subst e; simp_all
    simp [this]
  have hll : l.length = l'.length := by simp at hh; omega
  clear hh
  refine ⟨fun m s => ∃ (k : Nat) (i : Int) (g2 g3 g4 g5 g6 g7 g8 g9 g10 g14 g15 g16 g17 g18 g19 g20 g21 g22 g23 g24 g25 : AV), m = l.length - k ∧ k ≤ l.length ∧ i = (k : Int) ∧ (∀ i, i < k → l[i]? = l'[i]?) ∧ s = ⟨[.v (.slice sa n c), .v (.slice sa' n' c'), g2, g3, g4, g5, g6, g7, g8, g9, g10, .v (.slice sa n c), .v (.int .i64 n), .v (.int .i64 i), g14, g15, g16, g17, g18, g19, g20, g21, g22, g23, g24, g25], [], E⟩, ⟨_, 0, _, _, _, _, _, _, _, _, _, _, _, _, _, _, _, _, _, _, _, _, _, _, rfl, Nat.zero_le _, rfl, fun i hi => absurd hi (Nat.not_lt_zero _), rfl⟩, ?_⟩
  rintro m s ⟨k, i, g2, g3, g4, g5, g6, g7, g8, g9, g10, g14, g15, g16, g17, g18, g19, g20, g21, g22, g23, g24, g25, rfl, hk, rfl, hv, rfl⟩
  rcases hkl : l[k]? with _ | q
  · have hge := List.getElem?_eq_none_iff.1 hkl
    (repeat' ((conv => whnf); (first | with_reducible apply And.intro | (with_reducible intro hh; first | (with_reducible have hx := NewRow.self hh; clear hx) | (with_reducible have hrow := Made.row hh; have hle := Made.le hh; have hmade := hh; clear hh) | (with_reducible have hrow := Fresh.rowS hh; have hle := Fresh.leS hh; have hfr := hh; clear hh) | (with_reducible have hx := Ext.self hh; clear hx) | (with_reducible have hx := SlV.self hh; clear hx) | (with_reducible have hx := Value.self hh; clear hx) | with_reducible cases hh | skip) | (with_reducible apply AllEq.mk; intro yy hq) | with_reducible apply trivial | with_reducible apply Exists.intro () | (with_reducible apply ex_side; (first | with_reducible assumption | with_reducible apply fracs1 | with_reducible apply fracs2 | with_reducible apply fracs3 | with_reducible apply spans1 | with_reducible apply spans2 | (with_reducible apply NewRow.keep; with_reducible assumption) | (with_reducible apply RowAt.keep; with_reducible assumption) | assumption | (focus ((repeat (first | with_reducible assumption | (with_reducible apply RowAt.le; rotate_left; with_reducible assumption) | (with_reducible apply RowB.le; rotate_left; with_reducible assumption))); done)))) | (with_reducible apply ex_side (a := (_, _)); (focus (with_reducible apply And.intro <;> (focus ((repeat (first | with_reducible assumption | (with_reducible apply RowAt.le; rotate_left; with_reducible assumption) | (with_reducible apply RowB.le; rotate_left; with_reducible assumption))); done))))))); (all_goals (conv => whnf)))
    (all_goals (try dsimp only [Q.eta, Sn.eta, SlV.eta] at *)); (all_goals (first | exact Side.mk trivial | with_reducible exact Side.mk rfl | exact Side.mk (fun _ _ h => h) | exact Side.mk (Made.le (by assumption)) | refine Side.mk ?_ | refine Don.mk ?_ | skip))
    all_goals try (exfalso; have := of_decide_eq_true hh; omega)
    have : l = l' := by
      apply List.ext_getElem?
      intro i
      by_cases hi : i < k
      · exact hv i hi
      · rw [List.getElem?_eq_none (by omega), List.getElem?_eq_none (by omega)]
    simp [this]
  · have hlt : k < l.length := (List.getElem?_eq_some_iff.1 hkl).1
    have hkl' : l'[k]? = some (l'[k]'(by omega)) := List.getElem?_eq_getElem (by omega)
    generalize l'[k]'(by omega) = q' at hkl'
    cases sa with
    | none => rw [hnone rfl] at hkl; cases hkl
    | some a =>
    cases sa' with
    | none => rw [hnone' rfl] at hkl'; cases hkl'
    | some a' =>
      obtain ⟨h0, h1⟩ := FracsAt.at hp1 (a := a) rfl hkl
      obtain ⟨g0, g1⟩ := FracsAt.at hp1' (a := a') rfl hkl'
      (repeat' ((conv => whnf); (first | with_reducible apply And.intro | (with_reducible intro hh; first | (with_reducible have hx := NewRow.self hh; clear hx) | (with_reducible have hrow := Made.row hh; have hle := Made.le hh; have hmade := hh; clear hh) | (with_reducible have hrow := Fresh.rowS hh; have hle := Fresh.leS hh; have hfr := hh; clear hh) | (with_reducible have hx := Ext.self hh; clear hx) | (with_reducible have hx := SlV.self hh; clear hx) | (with_reducible have hx := Value.self hh; clear hx) | with_reducible cases hh | skip) | (with_reducible apply AllEq.mk; intro yy hq) | with_reducible apply trivial | with_reducible apply Exists.intro () | (with_reducible apply ex_side; (first | with_reducible assumption | with_reducible apply fracs1 | with_reducible apply fracs2 | with_reducible apply fracs3 | with_reducible apply spans1 | with_reducible apply spans2 | (with_reducible apply NewRow.keep; with_reducible assumption) | (with_reducible apply RowAt.keep; with_reducible assumption) | assumption | (focus ((repeat (first | with_reducible assumption | (with_reducible apply RowAt.le; rotate_left; with_reducible assumption) | (with_reducible apply RowB.le; rotate_left; with_reducible assumption))); done)))) | (with_reducible apply ex_side (a := (_, _)); (focus (with_reducible apply And.intro <;> (focus ((repeat (first | with_reducible assumption | (with_reducible apply RowAt.le; rotate_left; with_reducible assumption) | (with_reducible apply RowB.le; rotate_left; with_reducible assumption))); done))))))); (all_goals (conv => whnf)))
      (all_goals (try dsimp only [Q.eta, Sn.eta, SlV.eta] at *)); (all_goals (first | exact Side.mk trivial | with_reducible exact Side.mk rfl | exact Side.mk (fun _ _ h => h) | exact Side.mk (Made.le (by assumption)) | refine Side.mk ?_ | refine Don.mk ?_ | skip))
      all_goals first | exact ⟨by omega, by omega⟩ | skip
      all_goals try (exfalso; have := of_decide_eq_false hh; omega)
      all_goals first | (have hne : q ≠ q' := by (rintro rfl; simp at hh)) | (have heq : q = q' := by (obtain ⟨a1, a2⟩ := q; obtain ⟨b1, b2⟩ := q'; simpa using hh))
      all_goals first | (have : l ≠ l' := fun e => hne (by rw [e, hkl'] at hkl; cases hkl; rfl); simp [this]; done) | skip
      all_goals refine ⟨_, ?_, k + 1, _, _, _, _, _, _, _, _, _, _, _, _, _, _, _, _, _, _, _, _, _, _, rfl, hlt, wrap_succ (n := n) (by omega) hmax, fun i hi => ?_, rfl⟩
      all_goals first | omega | skip
      all_goals (by_cases hik : i = k; (subst hik; rw [hkl, hkl', heq]); exact hv i (by omega))


abbrev sfequSp : Sp := .rf SS (fun x (l : List Q × List Q) E => RowAt Q.cells 2 x.1 l.1 E ∧ RowAt Q.cells 2 x.2.1 l.2 E) (fun _ l => .bool (decide (l.1 = l.2)))
set_option maxHeartbeats 2000000 in
set_option maxRecDepth 100000 in
theorem sfequ_ok : Sp.ok Tryz.prog 86 sfequSp := by
  refine Sp.rf_ok (T := ⟨[], []⟩) follows eqokF trivial [(6, .take 0 (.take 1 (.take 2 (.take 3 (.take 4 (.take 5 (.take 6 (.take 7 (.take 8 (.done))))))))))] Tryz.func86 rfl (by kernel_rfl) _ _ _ fun x l E hp => ?_
  obtain ⟨⟨sa, n, c⟩, ⟨sa', n', c'⟩, u⟩ := x
  obtain ⟨l, l'⟩ := l
  obtain ⟨hp, hp'⟩ := hp
  have hp1 := hp
  have hp1' := hp'
  obtain ⟨hn, hmax, hnone, _⟩ := hp
  obtain ⟨hn', hmax', hnone', _⟩ := hp'
  dsimp only at hn hmax hnone hn' hmax' hnone' hp1 hp1'
  (repeat' ((conv => whnf); (first | with_reducible apply And.intro | (with_reducible intro hh; first | (with_reducible have hx := NewRow.self hh; clear hx) | (with_reducible have hrow := Made.row hh; have hle := Made.le hh; have hmade := hh; clear hh) | (with_reducible have hrow := Fresh.rowS hh; have hle := Fresh.leS hh; have hfr := hh; clear hh) | (with_reducible have hx := Ext.self hh; clear hx) | (with_reducible have hx := SlV.self hh; clear hx) | (with_reducible have hx := Value.self hh; clear hx) | with_reducible cases hh | skip) | (with_reducible apply AllEq.mk; intro yy hq) | with_reducible apply trivial | with_reducible apply Exists.intro () | (with_reducible apply ex_side; (first | with_reducible assumption | with_reducible apply fracs1 | with_reducible apply fracs2 | with_reducible apply fracs3 | with_reducible apply spans1 | with_reducible apply spans2 | (with_reducible apply NewRow.keep; with_reducible assumption) | (with_reducible apply RowAt.keep; with_reducible assumption) | assumption | (focus ((repeat (first | with_reducible assumption | (with_reducible apply RowAt.le; rotate_left; with_reducible assumption) | (with_reducible apply RowB.le; rotate_left; with_reducible assumption))); done)))) | (with_reducible apply ex_side (a := (_, _)); (focus (with_reducible apply And.intro <;> (focus ((repeat (first | with_reducible assumption | (with_reducible apply RowAt.le; rotate_left; with_reducible assumption) | (with_reducible apply RowB.le; rotate_left; with_reducible assumption))); done))))))); (all_goals (conv => whnf)))
  (all_goals (try dsimp only [Q.eta, Sn.eta, SlV.eta] at *)); (all_goals (first | exact Side.mk trivial | with_reducible exact Side.mk rfl | exact Side.mk (fun _ _ h => h) | exact Side.mk (Made.le (by assumption)) | refine Side.mk ?_ | refine Don.mk ?_ | skip))
  · have : l ≠ l' := fun e => by subst e; simp_all
    simp [this]
  have hll : l.length = l'.length := by simp at hh; omega
  clear hh
  refine ⟨fun m s => ∃ (k : Nat) (i : Int) (g2 g3 g4 g6 g7 g8 g9 g10 g11 g12 g13 g14 g15 g16 g17 g18 g19 g20 g21 g22 g23 g24 g25 : AV), m = l.length - k ∧ k ≤ l.length ∧ i = (k : Int) ∧ (∀ i, i < k → l[i]? = l'[i]?) ∧ s = ⟨[.v (.slice sa n c), .v (.slice sa' n' c'), g2, g3, g4, .v (.int .i64 i), g6, g7, g8, g9, g10, g11, g12, g13, g14, g15, g16, g17, g18, g19, g20, g21, g22, g23, g24, g25], [], E⟩, ⟨_, 0, _, _, _, _, _, _, _, _, _, _, _, _, _, _, _, _, _, _, _, _, _, _, _, _, rfl, Nat.zero_le _, rfl, fun i hi => absurd hi (Nat.not_lt_zero _), rfl⟩, ?_⟩
  rintro m s ⟨k, i, g2, g3, g4, g6, g7, g8, g9, g10, g11, g12, g13, g14, g15, g16, g17, g18, g19, g20, g21, g22, g23, g24, g25, rfl, hk, rfl, hv, rfl⟩
  rcases hkl : l[k]? with _ | q
  · have hge := List.getElem?_eq_none_iff.1 hkl
    (repeat' ((conv => whnf); (first | with_reducible apply And.intro | (with_reducible intro hh; first | (with_reducible have hx := NewRow.self hh; clear hx) | (with_reducible have hrow := Made.row hh; have hle := Made.le hh; have hmade := hh; clear hh) | (with_reducible have hrow := Fresh.rowS hh; have hle := Fresh.leS hh; have hfr := hh; clear hh) | (with_reducible have hx := Ext.self hh; clear hx) | (with_reducible have hx := SlV.self hh; clear hx) | (with_reducible have hx := Value.self hh; clear hx) | with_reducible cases hh | skip) | (with_reducible apply AllEq.mk; intro yy hq) | with_reducible apply trivial | with_reducible apply Exists.intro () | (with_reducible apply ex_side; (first | with_reducible assumption | with_reducible apply fracs1 | with_reducible apply fracs2 | with_reducible apply fracs3 | with_reducible apply spans1 | with_reducible apply spans2 | (with_reducible apply NewRow.keep; with_reducible assumption) | (with_reducible apply RowAt.keep; with_reducible assumption) | assumption | (focus ((repeat (first | with_reducible assumption | (with_reducible apply RowAt.le; rotate_left; with_reducible assumption) | (with_reducible apply RowB.le; rotate_left; with_reducible assumption))); done)))) | (with_reducible apply ex_side (a := (_, _)); (focus (with_reducible apply And.intro <;> (focus ((repeat (first | with_reducible assumption | (with_reducible apply RowAt.le; rotate_left; with_reducible assumption) | (with_reducible apply RowB.le; rotate_left; with_reducible assumption))); done))))))); (all_goals (conv => whnf)))
    (all_goals (try dsimp only [Q.eta, Sn.eta, SlV.eta] at *)); (all_goals (first | exact Side.mk trivial | with_reducible exact Side.mk rfl | exact Side.mk (fun _ _ h => h) | exact Side.mk (Made.le (by assumption)) | refine Side.mk ?_ | refine Don.mk ?_ | skip))
    all_goals try (exfalso; have := of_decide_eq_true hh; omega)
    have : l = l' := by
      apply List.ext_getElem?
      intro i
      by_cases hi : i < k
      · exact hv i hi
      · rw [List.getElem?_eq_none (by omega), List.getElem?_eq_none (by omega)]
    simp [this]
  · have hlt : k < l.length := (List.getElem?_eq_some_iff.1 hkl).1
    have hkl' : l'[k]? = some (l'[k]'(by omega)) := List.getElem?_eq_getElem (by omega)
    generalize l'[k]'(by omega) = q' at hkl'
    cases sa with
    | none => rw [hnone rfl] at hkl; cases hkl
    | some a =>
    cases sa' with
    | none => rw [hnone' rfl] at hkl'; cases hkl'
    | some a' =>
      obtain ⟨h0, h1⟩ := FracsAt.at hp1 (a := a) rfl hkl
      obtain ⟨g0, g1⟩ := FracsAt.at hp1' (a := a') rfl hkl'
      (repeat' ((conv => whnf); (first | with_reducible apply And.intro | (with_reducible intro hh; first | (with_reducible have hx := NewRow.self hh; clear hx) | (with_reducible have hrow := Made.row hh; have hle := Made.le hh; have hmade := hh; clear hh) | (with_reducible have hrow := Fresh.rowS hh; have hle := Fresh.leS hh; have hfr := hh; clear hh) | (with_reducible have hx := Ext.self hh; clear hx) | (with_reducible have hx := SlV.self hh; clear hx) | (with_reducible have hx := Value.self hh; clear hx) | with_reducible cases hh | skip) | (with_reducible apply AllEq.mk; intro yy hq) | with_reducible apply trivial | with_reducible apply Exists.intro () | (with_reducible apply ex_side; (first | with_reducible assumption | with_reducible apply fracs1 | with_reducible apply fracs2 | with_reducible apply fracs3 | with_reducible apply spans1 | with_reducible apply spans2 | (with_reducible apply NewRow.keep; with_reducible assumption) | (with_reducible apply RowAt.keep; with_reducible assumption) | assumption | (focus ((repeat (first | with_reducible assumption | (with_reducible apply RowAt.le; rotate_left; with_reducible assumption) | (with_reducible apply RowB.le; rotate_left; with_reducible assumption))); done)))) | (with_reducible apply ex_side (a := (_, _)); (focus (with_reducible apply And.intro <;> (focus ((repeat (first | with_reducible assumption | (with_reducible apply RowAt.le; rotate_left; with_reducible assumption) | (with_reducible apply RowB.le; rotate_left; with_reducible assumption))); done))))))); (all_goals (conv => whnf)))
      (all_goals (try dsimp only [Q.eta, Sn.eta, SlV.eta] at *)); (all_goals (first | exact Side.mk trivial | with_reducible exact Side.mk rfl | exact Side.mk (fun _ _ h => h) | exact Side.mk (Made.le (by assumption)) | refine Side.mk ?_ | refine Don.mk ?_ | skip))
      all_goals first | exact ⟨by omega, by omega⟩ | skip
      all_goals try (exfalso; have := of_decide_eq_false hh; omega)
      all_goals first | (have hne : q ≠ q' := by (rintro rfl; simp at hh)) | (have heq : q = q' := by (obtain ⟨a1, a2⟩ := q; obtain ⟨b1, b2⟩ := q'; simpa using hh))
      all_goals first | (have : l ≠ l' := fun e => hne (by rw [e, hkl'] at hkl; cases hkl; rfl); simp [this]; done) | skip
      all_goals refine ⟨_, ?_, k + 1, _, _, _, _, _, _, _, _, _, _, _, _, _, _, _, _, _, _, _, _, _, _, _, _, rfl, hlt, wrap_succ (n := n) (by omega) hmax, fun i hi => ?_, rfl⟩
      all_goals first | omega | skip
      all_goals (by_cases hik : i = k; (subst hik; rw [hkl, hkl', heq]); exact hv i (by omega))

abbrev SCC : ArgL (Scl × Scl × Unit) := .cons sclA (.cons sclA .nil)
abbrev sameCSp : Sp := .rf SCC (fun x (l : List Q × List Q) E => FracsAt x.1.errs l.1 E ∧ FracsAt x.2.1.errs l.2 E) (fun x l => .bool (decide (x.1.unit = x.2.1.unit ∧ l.1 = l.2)))
set_option maxRecDepth 100000 in
theorem sameC_ok : Sp.ok Tryz.prog 38 sameCSp := by
  refine Sp.rf_ok (T := ⟨[(87, frequSp)], []⟩) follows eqokF ⟨enters Tryz.func87 rfl rfl, frequ_ok, trivial⟩ [] Tryz.func38 rfl (by kernel_rfl) _ _ _ fun x l E hp => ?_
  obtain ⟨⟨⟨a, b⟩, ⟨sa, n, c⟩⟩, ⟨⟨a', b'⟩, ⟨sa', n', c'⟩⟩, u⟩ := x
  obtain ⟨l, l'⟩ := l
  obtain ⟨hp, hp'⟩ := hp
  dsimp only at hp hp'
  (repeat' ((conv => whnf); (first | with_reducible apply And.intro | (with_reducible intro hh; first | (with_reducible have hx := NewRow.self hh; clear hx) | (with_reducible have hrow := Made.row hh; have hle := Made.le hh; have hmade := hh; clear hh) | (with_reducible have hrow := Fresh.rowS hh; have hle := Fresh.leS hh; have hfr := hh; clear hh) | (with_reducible have hx := Ext.self hh; clear hx) | (with_reducible have hx := SlV.self hh; clear hx) | (with_reducible have hx := Value.self hh; clear hx) | with_reducible cases hh | skip) | (with_reducible apply AllEq.mk; intro yy hq) | with_reducible apply trivial | with_reducible apply Exists.intro () | (with_reducible apply ex_side; (first | with_reducible assumption | with_reducible apply fracs1 | with_reducible apply fracs2 | with_reducible apply fracs3 | with_reducible apply spans1 | with_reducible apply spans2 | (with_reducible apply NewRow.keep; with_reducible assumption) | (with_reducible apply RowAt.keep; with_reducible assumption) | assumption | (focus ((repeat (first | with_reducible assumption | (with_reducible apply RowAt.le; rotate_left; with_reducible assumption) | (with_reducible apply RowB.le; rotate_left; with_reducible assumption))); done)))) | (with_reducible apply ex_side (a := (_, _)); (focus (with_reducible apply And.intro <;> (focus ((repeat (first | with_reducible assumption | (with_reducible apply RowAt.le; rotate_left; with_reducible assumption) | (with_reducible apply RowB.le; rotate_left; with_reducible assumption))); done))))))); (all_goals (conv => whnf)))
  (all_goals (try dsimp only [Q.eta, Sn.eta, SlV.eta] at *)); (all_goals (first | exact Side.mk trivial | with_reducible exact Side.mk rfl | exact Side.mk (fun _ _ h => h) | exact Side.mk (Made.le (by assumption)) | refine Side.mk ?_ | refine Don.mk ?_ | skip))
  all_goals first | (simp_all; done) | (simp_all; grind)
set_option maxRecDepth 100000 in
theorem ssameC_ok : Sp.ok Tryz.prog 37 sameCSp := by
  refine Sp.rf_ok (T := ⟨[(86, sfequSp)], []⟩) follows eqokF ⟨enters Tryz.func86 rfl rfl, sfequ_ok, trivial⟩ [] Tryz.func37 rfl (by kernel_rfl) _ _ _ fun x l E hp => ?_
  obtain ⟨⟨⟨a, b⟩, ⟨sa, n, c⟩⟩, ⟨⟨a', b'⟩, ⟨sa', n', c'⟩⟩, u⟩ := x
  obtain ⟨l, l'⟩ := l
  obtain ⟨hp, hp'⟩ := hp
  dsimp only at hp hp'
  (repeat' ((conv => whnf); (first | with_reducible apply And.intro | (with_reducible intro hh; first | (with_reducible have hx := NewRow.self hh; clear hx) | (with_reducible have hrow := Made.row hh; have hle := Made.le hh; have hmade := hh; clear hh) | (with_reducible have hrow := Fresh.rowS hh; have hle := Fresh.leS hh; have hfr := hh; clear hh) | (with_reducible have hx := Ext.self hh; clear hx) | (with_reducible have hx := SlV.self hh; clear hx) | (with_reducible have hx := Value.self hh; clear hx) | with_reducible cases hh | skip) | (with_reducible apply AllEq.mk; intro yy hq) | with_reducible apply trivial | with_reducible apply Exists.intro () | (with_reducible apply ex_side; (first | with_reducible assumption | with_reducible apply fracs1 | with_reducible apply fracs2 | with_reducible apply fracs3 | with_reducible apply spans1 | with_reducible apply spans2 | (with_reducible apply NewRow.keep; with_reducible assumption) | (with_reducible apply RowAt.keep; with_reducible assumption) | assumption | (focus ((repeat (first | with_reducible assumption | (with_reducible apply RowAt.le; rotate_left; with_reducible assumption) | (with_reducible apply RowB.le; rotate_left; with_reducible assumption))); done)))) | (with_reducible apply ex_side (a := (_, _)); (focus (with_reducible apply And.intro <;> (focus ((repeat (first | with_reducible assumption | (with_reducible apply RowAt.le; rotate_left; with_reducible assumption) | (with_reducible apply RowB.le; rotate_left; with_reducible assumption))); done))))))); (all_goals (conv => whnf)))
  (all_goals (try dsimp only [Q.eta, Sn.eta, SlV.eta] at *)); (all_goals (first | exact Side.mk trivial | with_reducible exact Side.mk rfl | exact Side.mk (fun _ _ h => h) | exact Side.mk (Made.le (by assumption)) | refine Side.mk ?_ | refine Don.mk ?_ | skip))
  all_goals first | (simp_all; done) | (simp_all; grind)

end Go.Proofs.YtadliapkjijahaaGreatDoor
