/- Contracts of the reference's function that makes even scales; no condition. -/
import Derived.Test.YtlfhjmnaommckaaAb
import Derived.Test.YtlfhjmnaommckaaC1
import Derived.Test.YtlfhjmnaommckaaC2
import Derived.Test.YtlfhjmnaommckaaC3
import Derived.Test.YtlfhjmnaommckaaC4
import Derived.Test.YtlfhjmnaommckaaC5
import Derived.Test.YtlfhjmnaommckaaCL
import Derived.Test.YtlfhjmnaommckaaC6
import Derived.Test.YtlfhjmnaommckaaC7
import Derived.Test.YtlfhjmnaommckaaC8
import Derived.Test.YtlfhjmnaommckaaC9
import Derived.Test.YtlfhjmnaommckaaCO
import Derived.Test.YtlfhjmnaommckaaC12
import Derived.Test.YtlfhjmnaommckaaC14
import Derived.Test.YtlfhjmnaommckaaC15
import Derived.Test.YtlfhjmnaommckaaC16
import Derived.Test.YtlfhjmnaommckaaC17
import Derived.Test.YtlfhjmnaommckaaC25
import Derived.Test.YtlfhjmnaommckaaC30
import Derived.Test.YtlfhjmnaommckaaC31
import Derived.Test.YtlfhjmnaommckaaProg
set_option linter.unusedVariables false
set_option linter.unusedSimpArgs false
namespace Go.Proofs.Ytlfhjmnaommckaa
open Ab

theorem repl_push (k : Nat) (q : Q) : List.replicate k q ++ [q] = List.replicate (k + 1) q := by rw [List.replicate_succ']

set_option maxHeartbeats 2000000 in
set_option maxRecDepth 100000 in
theorem seven_ok : Sp.ok Try.prog 70 evSp := by
  refine Sp.nf_ok (T := ⟨[(103, validSp), (139, witSp), (104, withinSp), (132, wholeSp), (130, scaleOkSp)], []⟩) follows eqok0 ⟨enters Try.func103 rfl rfl, spok_ok, enters Try.func139 rfl rfl, wit_ok, enters Try.func104 rfl rfl, in_ok, enters Try.func132 rfl rfl, whole_ok, enters Try.func130 rfl rfl, scaleOk_ok, trivial⟩ [(9, .take 0 (.alt 1 (.alt 2 (.alt 3 (.alt 4 (.take 5 (.alt 6 (.done) (.last))) (.last)) (.last)) (.last)) (.alt 2 (.alt 1 (.alt 3 (.alt 4 (.take 5 (.alt 6 (.done) (.last))) (.last)) (.last)) (.alt 3 (.alt 1 (.alt 4 (.take 5 (.alt 6 (.done) (.last))) (.last)) (.last)) (.last))) (.last))))] Try.func70 rfl (by kernel_rfl) _ _ _ _ fun x l E hp => ?_
  obtain ⟨⟨a, b⟩, n0, u⟩ := x
  by_cases hv : okQ ⟨a, b⟩ = true
  · by_cases hw : (witQ ⟨a, b⟩ 1000 && withinB n0 2 60) = true
    · have hw' := hw
      rw [Bool.and_eq_true] at hw'
      have h60 := within_iff.1 hw'.2
      obtain ⟨n, rfl⟩ : ∃ n : Nat, n0 = n := ⟨n0.toNat, by omega⟩
      (repeat' ((conv => whnf); (first | with_reducible apply And.intro | (with_reducible intro hh; first | (with_reducible have hx := NewRow.self hh; clear hx) | (with_reducible have hrow := Made.row hh; have hle := Made.le hh; have hmade := hh; clear hh) | (with_reducible have hrow := Fresh.rowS hh; have hle := Fresh.leS hh; have hfr := hh; clear hh) | (with_reducible have hx := Ext.self hh; clear hx) | (with_reducible have hx := SlV.self hh; clear hx) | (with_reducible have hx := Value.self hh; clear hx) | with_reducible cases hh | skip) | (with_reducible apply AllEq.mk; intro yy hq) | with_reducible apply trivial | with_reducible apply Exists.intro () | (with_reducible apply ex_side; (first | with_reducible assumption | with_reducible apply fracs1 | with_reducible apply fracs2 | with_reducible apply fracs3 | with_reducible apply spans1 | with_reducible apply spans2 | (with_reducible apply NewRow.keep; with_reducible assumption) | (with_reducible apply RowAt.keep; with_reducible assumption) | assumption | (focus ((repeat (first | with_reducible assumption | (with_reducible apply RowAt.le; rotate_left; with_reducible assumption) | (with_reducible apply RowB.le; rotate_left; with_reducible assumption))); done)))) | (with_reducible apply ex_side (a := (_, _)); (focus (with_reducible apply And.intro <;> (focus ((repeat (first | with_reducible assumption | (with_reducible apply RowAt.le; rotate_left; with_reducible assumption) | (with_reducible apply RowB.le; rotate_left; with_reducible assumption))); done))))))); (all_goals (conv => whnf)))
      (all_goals (try dsimp only [Q.eta, Sn.eta, SlV.eta] at *)); (all_goals (first | exact Side.mk trivial | with_reducible exact Side.mk rfl | exact Side.mk (fun _ _ h => h) | exact Side.mk (Made.le (by assumption)) | refine Side.mk ?_ | refine Don.mk ?_ | skip))
      all_goals first
        | (exfalso; have h9 := (by assumption : (!okQ ⟨a, b⟩) = true); rw [hv] at h9; cases h9)
        | (exfalso; have h9 := (by assumption : (!witQ ⟨a, b⟩ 1000) = true); rw [hw'.1] at h9; cases h9)
        | (exfalso; have h9 := (by assumption : (!withinB (n : Int) 2 60) = true); rw [hw'.2] at h9; cases h9)
        | skip
      refine ⟨fun m s => ∃ (k : Nat) (i : Int) (o : SlV) (E' : Ext) (g0 g2 g3 g5 g8 g9 g10 g11 g12 g13 g14 g15 g16 g17 g18 g19 g20 g21 g22 g23 g24 g25 g26 g27 g28 g29 g30 g31 g32 g33 g34 g35 g36 g37 : AV), m = n - k ∧ k ≤ n ∧ i = (k : Int) ∧ Grow 25 2 Q.cells E o (List.replicate k Q1) E' ∧ s = ⟨[g0, .v (.int .i64 (n : Int)), g2, g3, .p 1 0, g5, .p 2 0, .v (.int .i64 i), g8, g9, g10, g11, g12, g13, g14, g15, g16, g17, g18, g19, g20, g21, g22, g23, g24, g25, g26, g27, g28, g29, g30, g31, g32, g33, g34, g35, g36, g37], [([.int .i64 a, .int .i64 b], 25), ([.int .i64 0, .int .i64 0, .slice none 0 0], 70), ([.int .i64 a, .int .i64 b, .slice o.a o.n o.c], 70)], E'⟩, ⟨_, 0, _, ⟨none, 0, 0⟩, E, _, _, _, _, _, _, _, _, _, _, _, _, _, _, _, _, _, _, _, _, _, _, _, _, _, _, _, _, _, _, _, _, _, _, rfl, Nat.zero_le _, rfl, Grow.nil, rfl⟩, ?_⟩
      rintro m s ⟨k, i, o, E', g0, g2, g3, g5, g8, g9, g10, g11, g12, g13, g14, g15, g16, g17, g18, g19, g20, g21, g22, g23, g24, g25, g26, g27, g28, g29, g30, g31, g32, g33, g34, g35, g36, g37, rfl, hk, rfl, hg, rfl⟩
      by_cases hlt : k < n
      · have hok : o.n = k := by have := hg.done.row.1; rw [this, List.length_replicate]
        (repeat' ((conv => whnf); (first | with_reducible apply And.intro | (with_reducible intro hh; first | (with_reducible have hx := NewRow.self hh; clear hx) | (with_reducible have hrow := Made.row hh; have hle := Made.le hh; have hmade := hh; clear hh) | (with_reducible have hrow := Fresh.rowS hh; have hle := Fresh.leS hh; have hfr := hh; clear hh) | (with_reducible have hx := Ext.self hh; clear hx) | (with_reducible have hx := SlV.self hh; clear hx) | (with_reducible have hx := Value.self hh; clear hx) | with_reducible cases hh | skip) | (with_reducible apply AllEq.mk; intro yy hq) | with_reducible apply trivial | with_reducible apply Exists.intro () | (with_reducible apply ex_side; (first | with_reducible assumption | with_reducible apply fracs1 | with_reducible apply fracs2 | with_reducible apply fracs3 | with_reducible apply spans1 | with_reducible apply spans2 | (with_reducible apply NewRow.keep; with_reducible assumption) | (with_reducible apply RowAt.keep; with_reducible assumption) | assumption | (focus ((repeat (first | with_reducible assumption | (with_reducible apply RowAt.le; rotate_left; with_reducible assumption) | (with_reducible apply RowB.le; rotate_left; with_reducible assumption))); done)))) | (with_reducible apply ex_side (a := (_, _)); (focus (with_reducible apply And.intro <;> (focus ((repeat (first | with_reducible assumption | (with_reducible apply RowAt.le; rotate_left; with_reducible assumption) | (with_reducible apply RowB.le; rotate_left; with_reducible assumption))); done))))))); (all_goals (conv => whnf)))
        (all_goals (try dsimp only [Q.eta, Sn.eta, SlV.eta] at *)); (all_goals (first | exact Side.mk trivial | with_reducible exact Side.mk rfl | exact Side.mk (fun _ _ h => h) | exact Side.mk (Made.le (by assumption)) | refine Side.mk ?_ | refine Don.mk ?_ | skip))
        all_goals try (exfalso; have := of_decide_eq_false (by assumption : decide ((k : Int) < (n : Int)) = false); omega)
        all_goals (
          refine ⟨(_, _), Side.mk ⟨OwnRow.new hh hg.own, cells_new hh rfl, by simp [cellOk], by dsimp only; omega⟩, fun r E2 hpost => ?_⟩
          have hg2 := Grow.push (x := Q1) hg hh hpost
          rw [repl_push] at hg2
          (repeat' ((conv => whnf); (first | with_reducible apply And.intro | (with_reducible intro hh; first | (with_reducible have hx := NewRow.self hh; clear hx) | (with_reducible have hrow := Made.row hh; have hle := Made.le hh; have hmade := hh; clear hh) | (with_reducible have hrow := Fresh.rowS hh; have hle := Fresh.leS hh; have hfr := hh; clear hh) | (with_reducible have hx := Ext.self hh; clear hx) | (with_reducible have hx := SlV.self hh; clear hx) | (with_reducible have hx := Value.self hh; clear hx) | with_reducible cases hh | skip) | (with_reducible apply AllEq.mk; intro yy hq) | with_reducible apply trivial | with_reducible apply Exists.intro () | (with_reducible apply ex_side; (first | with_reducible assumption | with_reducible apply fracs1 | with_reducible apply fracs2 | with_reducible apply fracs3 | with_reducible apply spans1 | with_reducible apply spans2 | (with_reducible apply NewRow.keep; with_reducible assumption) | (with_reducible apply RowAt.keep; with_reducible assumption) | assumption | (focus ((repeat (first | with_reducible assumption | (with_reducible apply RowAt.le; rotate_left; with_reducible assumption) | (with_reducible apply RowB.le; rotate_left; with_reducible assumption))); done)))) | (with_reducible apply ex_side (a := (_, _)); (focus (with_reducible apply And.intro <;> (focus ((repeat (first | with_reducible assumption | (with_reducible apply RowAt.le; rotate_left; with_reducible assumption) | (with_reducible apply RowB.le; rotate_left; with_reducible assumption))); done))))))); (all_goals (conv => whnf)))
          (all_goals (try dsimp only [Q.eta, Sn.eta, SlV.eta] at *)); (all_goals (first | exact Side.mk trivial | with_reducible exact Side.mk rfl | exact Side.mk (fun _ _ h => h) | exact Side.mk (Made.le (by assumption)) | refine Side.mk ?_ | refine Don.mk ?_ | skip))
          refine ⟨_, ?_, k + 1, _, r, E2, _, _, _, _, _, _, _, _, _, _, _, _, _, _, _, _, _, _, _, _, _, _, _, _, _, _, _, _, _, _, _, _, _, _, rfl, hlt, by rw [wrap_in (by omega) (by omega)]; rfl, hg2, rfl⟩
          omega)
      · obtain rfl : k = n := by omega
        have hR := hg.done
        have hrow := hR.row
        (repeat' ((conv => whnf); (first | with_reducible apply And.intro | (with_reducible intro hh; first | (with_reducible have hx := NewRow.self hh; clear hx) | (with_reducible have hrow := Made.row hh; have hle := Made.le hh; have hmade := hh; clear hh) | (with_reducible have hrow := Fresh.rowS hh; have hle := Fresh.leS hh; have hfr := hh; clear hh) | (with_reducible have hx := Ext.self hh; clear hx) | (with_reducible have hx := SlV.self hh; clear hx) | (with_reducible have hx := Value.self hh; clear hx) | with_reducible cases hh | skip) | (with_reducible apply AllEq.mk; intro yy hq) | with_reducible apply trivial | with_reducible apply Exists.intro () | (with_reducible apply ex_side; (first | with_reducible assumption | with_reducible apply fracs1 | with_reducible apply fracs2 | with_reducible apply fracs3 | with_reducible apply spans1 | with_reducible apply spans2 | (with_reducible apply NewRow.keep; with_reducible assumption) | (with_reducible apply RowAt.keep; with_reducible assumption) | assumption | (focus ((repeat (first | with_reducible assumption | (with_reducible apply RowAt.le; rotate_left; with_reducible assumption) | (with_reducible apply RowB.le; rotate_left; with_reducible assumption))); done)))) | (with_reducible apply ex_side (a := (_, _)); (focus (with_reducible apply And.intro <;> (focus ((repeat (first | with_reducible assumption | (with_reducible apply RowAt.le; rotate_left; with_reducible assumption) | (with_reducible apply RowB.le; rotate_left; with_reducible assumption))); done))))))); (all_goals (conv => whnf)))
        (all_goals (try dsimp only [Q.eta, Sn.eta, SlV.eta] at *)); (all_goals (first | exact Side.mk trivial | with_reducible exact Side.mk rfl | exact Side.mk (fun _ _ h => h) | exact Side.mk (Made.le (by assumption)) | refine Side.mk ?_ | refine Don.mk ?_ | skip))
        all_goals try (exfalso; have := of_decide_eq_true (by assumption : decide ((k : Int) < (k : Int)) = true); omega)
        · have h9 : okC ⟨a, b⟩ (List.replicate (k : Int).toNat Q1) = false := by rw [Int.toNat_natCast]; exact not_t (by assumption)
          rw [evR_3 hv hw h9]
          exact ⟨⟨none, 0, 0⟩, rfl, Side.mk (Fresh.noRow hR.le hR.keep)⟩
        · have h9 : okC ⟨a, b⟩ (List.replicate (k : Int).toNat Q1) = true := by rw [Int.toNat_natCast]; exact not_f (by assumption)
          rw [evR_4 hv hw h9, Int.toNat_natCast]
          exact ⟨o, rfl, Side.mk hR⟩
    · have hw0 : (witQ ⟨a, b⟩ 1000 && withinB n0 2 60) = false := by simpa using hw
      (repeat' ((conv => whnf); (first | with_reducible apply And.intro | (with_reducible intro hh; first | (with_reducible have hx := NewRow.self hh; clear hx) | (with_reducible have hrow := Made.row hh; have hle := Made.le hh; have hmade := hh; clear hh) | (with_reducible have hrow := Fresh.rowS hh; have hle := Fresh.leS hh; have hfr := hh; clear hh) | (with_reducible have hx := Ext.self hh; clear hx) | (with_reducible have hx := SlV.self hh; clear hx) | (with_reducible have hx := Value.self hh; clear hx) | with_reducible cases hh | skip) | (with_reducible apply AllEq.mk; intro yy hq) | with_reducible apply trivial | with_reducible apply Exists.intro () | (with_reducible apply ex_side; (first | with_reducible assumption | with_reducible apply fracs1 | with_reducible apply fracs2 | with_reducible apply fracs3 | with_reducible apply spans1 | with_reducible apply spans2 | (with_reducible apply NewRow.keep; with_reducible assumption) | (with_reducible apply RowAt.keep; with_reducible assumption) | assumption | (focus ((repeat (first | with_reducible assumption | (with_reducible apply RowAt.le; rotate_left; with_reducible assumption) | (with_reducible apply RowB.le; rotate_left; with_reducible assumption))); done)))) | (with_reducible apply ex_side (a := (_, _)); (focus (with_reducible apply And.intro <;> (focus ((repeat (first | with_reducible assumption | (with_reducible apply RowAt.le; rotate_left; with_reducible assumption) | (with_reducible apply RowB.le; rotate_left; with_reducible assumption))); done))))))); (all_goals (conv => whnf)))
      (all_goals (try dsimp only [Q.eta, Sn.eta, SlV.eta] at *)); (all_goals (first | exact Side.mk trivial | with_reducible exact Side.mk rfl | exact Side.mk (fun _ _ h => h) | exact Side.mk (Made.le (by assumption)) | refine Side.mk ?_ | refine Don.mk ?_ | skip))
      all_goals first
        | (exfalso; have h9 := (by assumption : (!okQ ⟨a, b⟩) = true); rw [hv] at h9; cases h9)
        | (rw [evR_2 hv hw0]; exact ⟨⟨none, 0, 0⟩, rfl, Side.mk Fresh.nilRow⟩)
        | (exfalso; have h9 := not_f (by assumption : (!witQ ⟨a, b⟩ 1000) = false); have h8 := not_f (by assumption : (!withinB n0 2 60) = false); rw [h9, h8] at hw0; cases hw0)
  · have hv0 : okQ ⟨a, b⟩ = false := by simpa using hv
    (repeat' ((conv => whnf); (first | with_reducible apply And.intro | (with_reducible intro hh; first | (with_reducible have hx := NewRow.self hh; clear hx) | (with_reducible have hrow := Made.row hh; have hle := Made.le hh; have hmade := hh; clear hh) | (with_reducible have hrow := Fresh.rowS hh; have hle := Fresh.leS hh; have hfr := hh; clear hh) | (with_reducible have hx := Ext.self hh; clear hx) | (with_reducible have hx := SlV.self hh; clear hx) | (with_reducible have hx := Value.self hh; clear hx) | with_reducible cases hh | skip) | (with_reducible apply AllEq.mk; intro yy hq) | with_reducible apply trivial | with_reducible apply Exists.intro () | (with_reducible apply ex_side; (first | with_reducible assumption | with_reducible apply fracs1 | with_reducible apply fracs2 | with_reducible apply fracs3 | with_reducible apply spans1 | with_reducible apply spans2 | (with_reducible apply NewRow.keep; with_reducible assumption) | (with_reducible apply RowAt.keep; with_reducible assumption) | assumption | (focus ((repeat (first | with_reducible assumption | (with_reducible apply RowAt.le; rotate_left; with_reducible assumption) | (with_reducible apply RowB.le; rotate_left; with_reducible assumption))); done)))) | (with_reducible apply ex_side (a := (_, _)); (focus (with_reducible apply And.intro <;> (focus ((repeat (first | with_reducible assumption | (with_reducible apply RowAt.le; rotate_left; with_reducible assumption) | (with_reducible apply RowB.le; rotate_left; with_reducible assumption))); done))))))); (all_goals (conv => whnf)))
    (all_goals (try dsimp only [Q.eta, Sn.eta, SlV.eta] at *)); (all_goals (first | exact Side.mk trivial | with_reducible exact Side.mk rfl | exact Side.mk (fun _ _ h => h) | exact Side.mk (Made.le (by assumption)) | refine Side.mk ?_ | refine Don.mk ?_ | skip))
    all_goals first
      | (rw [evR_1 hv0]; exact ⟨⟨none, 0, 0⟩, rfl, Side.mk Fresh.nilRow⟩)
      | (exfalso; have h9 := not_f (by assumption : (!okQ ⟨a, b⟩) = false); rw [hv0] at h9; cases h9)

end Go.Proofs.Ytlfhjmnaommckaa
