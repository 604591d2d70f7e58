/- Contracts of both packages' functions on valid scales, for all scales that lie in memory; conditions: the bounds that each names. -/
import Derived.Test.YtadliapkjijahaaGreatDoorAb
import Derived.Test.YtadliapkjijahaaGreatDoorC1
import Derived.Test.YtadliapkjijahaaGreatDoorC2
import Derived.Test.YtadliapkjijahaaGreatDoorC3
import Derived.Test.YtadliapkjijahaaGreatDoorC4
import Derived.Test.YtadliapkjijahaaGreatDoorC5
import Derived.Test.YtadliapkjijahaaGreatDoorCL
import Derived.Test.YtadliapkjijahaaGreatDoorC6
import Derived.Test.YtadliapkjijahaaGreatDoorC7
import Derived.Test.YtadliapkjijahaaGreatDoorC8
import Derived.Test.YtadliapkjijahaaGreatDoorC9
import Derived.Test.YtadliapkjijahaaGreatDoorCO
import Derived.Test.YtadliapkjijahaaGreatDoorC12
import Derived.Test.YtadliapkjijahaaGreatDoorC14
import Derived.Test.YtadliapkjijahaaGreatDoorProg
set_option linter.unusedVariables false
set_option linter.unusedSimpArgs false
namespace Go.Proofs.YtadliapkjijahaaGreatDoor
open Ab


set_option maxRecDepth 100000 in
theorem scaleV_ok : Sp.ok Tryz.prog 72 scaleOkVSp := by
  refine Sp.rf_ok (T := ⟨[(63, validSp), (112, unitSp), (88, withinSp), (57, areSp), (79, sizSp), (80, wholeSp), (53, tmulqSp), (50, taddqSp)], []⟩) follows eqok0 ⟨enters Tryz.func63 rfl rfl, valid_ok, enters Tryz.func112 rfl rfl, unit_ok, enters Tryz.func88 rfl rfl, within_ok, enters Tryz.func57 rfl rfl, are_ok, enters Tryz.func79 rfl rfl, siz_ok, enters Tryz.func80 rfl rfl, num_ok, enters Tryz.func53 rfl rfl, tmulq_ok, enters Tryz.func50 rfl rfl, taddq_ok, trivial⟩ [(7, .take 0 (.take 4 (.take 5 (.take 6 (.take 8 (.take 9 (.take 10 (.take 11 (.take 12 (.take 13 (.alt 1 (.take 2 (.take 3 (.take 7 (.take 14 (.done))))) (.last)))))))))))), (9, .take 0 (.take 1 (.take 2 (.take 4 (.take 5 (.take 7 (.alt 3 (.alt 6 (.alt 8 (.done) (.last)) (.last)) (.last))))))))] Tryz.func72 rfl (by kernel_rfl) _ _ _ fun x l E hp => ?_
  obtain ⟨⟨⟨a, b⟩, ⟨sa, n, c⟩⟩, u⟩ := x
  dsimp only at hp
  have hat := @FracsAt.at _ _ _ hp
  have hp0 := hp
  obtain ⟨hn, hmax, hnone, _⟩ := hp
  dsimp only at hn hmax hnone hat hp0
  by_cases hall : allOk l = true
  · (repeat' ((conv => whnf); (first | with_reducible apply And.intro | (with_reducible intro hh; first | (with_reducible have hx := NewRow.self hh; clear hx) | (with_reducible have hrow := Made.row hh; have hle := Made.le hh; have hmade := hh; clear hh) | (with_reducible have hrow := Fresh.rowS hh; have hle := Fresh.leS hh; have hfr := hh; clear hh) | (with_reducible have hx := Ext.self hh; clear hx) | (with_reducible have hx := SlV.self hh; clear hx) | (with_reducible have hx := Value.self hh; clear hx) | with_reducible cases hh | skip) | (with_reducible apply AllEq.mk; intro yy hq) | with_reducible apply trivial | with_reducible apply Exists.intro () | (with_reducible apply ex_side; (first | with_reducible assumption | with_reducible apply fracs1 | with_reducible apply fracs2 | with_reducible apply fracs3 | with_reducible apply spans1 | with_reducible apply spans2 | (with_reducible apply NewRow.keep; with_reducible assumption) | (with_reducible apply RowAt.keep; with_reducible assumption) | assumption | (focus ((repeat (first | with_reducible assumption | (with_reducible apply RowAt.le; rotate_left; with_reducible assumption) | (with_reducible apply RowB.le; rotate_left; with_reducible assumption))); done)))) | (with_reducible apply ex_side (a := (_, _)); (focus (with_reducible apply And.intro <;> (focus ((repeat (first | with_reducible assumption | (with_reducible apply RowAt.le; rotate_left; with_reducible assumption) | (with_reducible apply RowB.le; rotate_left; with_reducible assumption))); done))))))); (all_goals (conv => whnf)))
    (all_goals (try dsimp only [Q.eta, Sn.eta, SlV.eta] at *)); (all_goals (first | exact Side.mk trivial | with_reducible exact Side.mk rfl | exact Side.mk (fun _ _ h => h) | exact Side.mk (Made.le (by assumption)) | refine Side.mk ?_ | refine Don.mk ?_ | skip))
    all_goals first | exact not_f (by assumption) | (refine congrArg (fun z => AV.v (Value.bool z)) ?_; first | (simp_all [okC, witQ]; done) | (simp_all [okC, witQ]; omega)) | skip
    have hq1 : okQ ⟨a, b⟩ = true := not_f (by assumption)
    have hq2 : (decide (a > 0) && decide (cmpQ ⟨a, b⟩ ⟨1000, 1⟩ ≤ 0)) = true := not_f (by assumption)
    have hl : withinB (n : Int) 2 60 = true := not_f (by assumption)
    have hw : witQ ⟨a, b⟩ 1000 = true := by rw [witQ, hq1]; exact hq2
    rw [hn] at hl
    have h60 := within_iff.1 hl
    clear hh
    have hC : okC ⟨a, b⟩ l = okEs ⟨a, b⟩ 0 l := by simp [okC, hw, hl]
    refine ⟨fun m s => ∃ (k : Nat) (bd : Bool) (g4 g5 g35 g36 g37 g38 g39 g40 g41 g42 g43 g44 g45 g46 g47 g48 g49 g50 g51 g52 g53 g54 g55 g56 g57 g58 g59 g60 g61 g62 g63 : AV) (w0 w2 w7 w8 w9 w10 w12 w13 w14 w15 w16 w18 w19 w20 w21 w22 w23 w25 w26 w27 w28 w29 w64 w65 w66 w67 w68 : Value), m = l.length - k ∧ k ≤ l.length ∧ okEs ⟨a, b⟩ 0 l = (!bd && okEs ⟨a, b⟩ k (l.drop k)) ∧ s = ⟨[.v w0, .p 0 0, .v w2, .p 1 0, g4, g5, .p 0 0, .v w7, .v w8, .v w9, .v w10, .p 0 0, .v w12, .v w13, .v w14, .v w15, .v w16, .p 0 2, .v w18, .v w19, .v w20, .v w21, .v w22, .v w23, .p 0 2, .v w25, .v w26, .v w27, .v w28, .v w29, .p 1 0, .p 0 2, .v (.slice sa n c), .v (.int .i64 n), .v (.int .i64 k), g35, g36, g37, g38, g39, g40, g41, g42, g43, g44, g45, g46, g47, g48, g49, g50, g51, g52, g53, g54, g55, g56, g57, g58, g59, g60, g61, g62, g63, .v w64, .v w65, .v w66, .v w67, .v w68], [([.int .i64 a, .int .i64 b, .slice sa n c], 49), ([.bool bd], 73)], E⟩, ⟨_, 0, false, _, _, _, _, _, _, _, _, _, _, _, _, _, _, _, _, _, _, _, _, _, _, _, _, _, _, _, _, _, _, _, _, _, _, _, _, _, _, _, _, _, _, _, _, _, _, _, _, _, _, _, _, _, _, _, _, _, _, rfl, Nat.zero_le _, rfl, rfl⟩, ?_⟩
    rintro m s ⟨k, bd, g4, g5, g35, g36, g37, g38, g39, g40, g41, g42, g43, g44, g45, g46, g47, g48, g49, g50, g51, g52, g53, g54, g55, g56, g57, g58, g59, g60, g61, g62, g63, w0, w2, w7, w8, w9, w10, w12, w13, w14, w15, w16, w18, w19, w20, w21, w22, w23, w25, w26, w27, w28, w29, w64, w65, w66, w67, w68, rfl, hk, hs, rfl⟩
    rcases hkl : l[k]? with _ | e
    · have hge := List.getElem?_eq_none_iff.1 hkl
      rw [List.drop_eq_nil_of_le hge, okEs, Bool.and_true] at hs
      (repeat' ((conv => whnf); (first | with_reducible apply And.intro | (with_reducible intro hh; first | (with_reducible have hx := NewRow.self hh; clear hx) | (with_reducible have hrow := Made.row hh; have hle := Made.le hh; have hmade := hh; clear hh) | (with_reducible have hrow := Fresh.rowS hh; have hle := Fresh.leS hh; have hfr := hh; clear hh) | (with_reducible have hx := Ext.self hh; clear hx) | (with_reducible have hx := SlV.self hh; clear hx) | (with_reducible have hx := Value.self hh; clear hx) | with_reducible cases hh | skip) | (with_reducible apply AllEq.mk; intro yy hq) | with_reducible apply trivial | with_reducible apply Exists.intro () | (with_reducible apply ex_side; (first | with_reducible assumption | with_reducible apply fracs1 | with_reducible apply fracs2 | with_reducible apply fracs3 | with_reducible apply spans1 | with_reducible apply spans2 | (with_reducible apply NewRow.keep; with_reducible assumption) | (with_reducible apply RowAt.keep; with_reducible assumption) | assumption | (focus ((repeat (first | with_reducible assumption | (with_reducible apply RowAt.le; rotate_left; with_reducible assumption) | (with_reducible apply RowB.le; rotate_left; with_reducible assumption))); done)))) | (with_reducible apply ex_side (a := (_, _)); (focus (with_reducible apply And.intro <;> (focus ((repeat (first | with_reducible assumption | (with_reducible apply RowAt.le; rotate_left; with_reducible assumption) | (with_reducible apply RowB.le; rotate_left; with_reducible assumption))); done))))))); (all_goals (conv => whnf)))
      (all_goals (try dsimp only [Q.eta, Sn.eta, SlV.eta] at *)); (all_goals (first | exact Side.mk trivial | with_reducible exact Side.mk rfl | exact Side.mk (fun _ _ h => h) | exact Side.mk (Made.le (by assumption)) | refine Side.mk ?_ | refine Don.mk ?_ | skip))
      all_goals try (exfalso; have := of_decide_eq_true (by assumption : decide ((k : Int) < (n : Int)) = true); omega)
      rw [hC, hs]
    · have hlt : k < l.length := (List.getElem?_eq_some_iff.1 hkl).1
      rw [okEs_step hkl] at hs
      have he := allOk_iff.1 hall k e hkl
      have hsm : smE ⟨a, b⟩ e = !decide (4 * (e.p.natAbs : Int) * b > a * e.q) := rfl
      have hE : okE ⟨a, b⟩ k e = (smE ⟨a, b⟩ e && (markO ⟨a, b⟩ k e).isSome) := by rw [okE, he]; rfl
      have hmn := markT_none ⟨a, b⟩ k e
      obtain ⟨w1, w2, w3⟩ := sm_wrap hq1 he
      dsimp only at w1 w2 w3
      cases sa with
      | none => rw [hnone rfl] at hkl; cases hkl
      | some ad =>
        obtain ⟨h0, h1⟩ := hat rfl hkl
        (repeat' ((conv => whnf); (first | with_reducible apply And.intro | (with_reducible intro hh; first | (with_reducible have hx := NewRow.self hh; clear hx) | (with_reducible have hrow := Made.row hh; have hle := Made.le hh; have hmade := hh; clear hh) | (with_reducible have hrow := Fresh.rowS hh; have hle := Fresh.leS hh; have hfr := hh; clear hh) | (with_reducible have hx := Ext.self hh; clear hx) | (with_reducible have hx := SlV.self hh; clear hx) | (with_reducible have hx := Value.self hh; clear hx) | with_reducible cases hh | skip) | (with_reducible apply AllEq.mk; intro yy hq) | with_reducible apply trivial | with_reducible apply Exists.intro () | (with_reducible apply ex_side; (first | with_reducible assumption | with_reducible apply fracs1 | with_reducible apply fracs2 | with_reducible apply fracs3 | with_reducible apply spans1 | with_reducible apply spans2 | (with_reducible apply NewRow.keep; with_reducible assumption) | (with_reducible apply RowAt.keep; with_reducible assumption) | assumption | (focus ((repeat (first | with_reducible assumption | (with_reducible apply RowAt.le; rotate_left; with_reducible assumption) | (with_reducible apply RowB.le; rotate_left; with_reducible assumption))); done)))) | (with_reducible apply ex_side (a := (_, _)); (focus (with_reducible apply And.intro <;> (focus ((repeat (first | with_reducible assumption | (with_reducible apply RowAt.le; rotate_left; with_reducible assumption) | (with_reducible apply RowB.le; rotate_left; with_reducible assumption))); done))))))); (all_goals (conv => whnf)))
        (all_goals (try dsimp only [Q.eta, Sn.eta, SlV.eta] at *)); (all_goals (first | exact Side.mk trivial | with_reducible exact Side.mk rfl | exact Side.mk (fun _ _ h => h) | exact Side.mk (Made.le (by assumption)) | refine Side.mk ?_ | refine Don.mk ?_ | skip))
        all_goals subst_vars
        all_goals have hsz : (sizQ e).p = (e.p.natAbs : Int) := rfl
        all_goals try simp only [hsz, w1, w2, w3] at *
        all_goals first | exact ⟨by omega, by omega⟩ | exact he | exact ⟨okQ_idx (by omega), hq1⟩ | exact ⟨tolO_mul _ _, he⟩ | (exfalso; have := of_decide_eq_false (by assumption : decide ((k : Int) < (l.length : Int)) = false); omega) | skip
        all_goals first | (refine congrArg (fun z => AV.v (Value.bool z)) ?_; rw [hC, hs, hE, hsm, (by assumption : decide (4 * (e.p.natAbs : Int) * b > a * e.q) = true)]; simp; done) | skip
        · refine ⟨_, ?_, k + 1, bd || (mulO ⟨k, 1⟩ ⟨a, b⟩).isNone || (addO (tolO (mulO ⟨k, 1⟩ ⟨a, b⟩)) e).isNone, _, _, _, _, _, _, _, _, _, _, _, _, _, _, _, _, _, _, _, _, _, _, _, _, _, _, _, _, _, _, _, _, _, _, _, _, _, _, _, _, _, _, _, _, _, _, _, _, _, _, _, _, _, _, _, _, _, _, rfl, hlt, ?_, by first | (rw [wrap_succ (n := l.length) (by omega) hmax]; done) | (rw [wrap_succ (n := l.length) (by omega) hmax]; rfl)⟩
          · omega
          · rw [hs, hE, hsm, (by assumption : decide (4 * (e.p.natAbs : Int) * b > a * e.q) = false), ← Option.not_isNone, hmn]
            cases bd <;> cases (mulO ⟨k, 1⟩ ⟨a, b⟩).isNone <;> cases (addO (tolO (mulO ⟨k, 1⟩ ⟨a, b⟩)) e).isNone <;> simp
  · have hes : okEs ⟨a, b⟩ 0 l = false := by
      cases h : okEs ⟨a, b⟩ 0 l with
      | false => rfl
      | true => exact (hall (okEs_all h)).elim
    (repeat' ((conv => whnf); (first | with_reducible apply And.intro | (with_reducible intro hh; first | (with_reducible have hx := NewRow.self hh; clear hx) | (with_reducible have hrow := Made.row hh; have hle := Made.le hh; have hmade := hh; clear hh) | (with_reducible have hrow := Fresh.rowS hh; have hle := Fresh.leS hh; have hfr := hh; clear hh) | (with_reducible have hx := Ext.self hh; clear hx) | (with_reducible have hx := SlV.self hh; clear hx) | (with_reducible have hx := Value.self hh; clear hx) | with_reducible cases hh | skip) | (with_reducible apply AllEq.mk; intro yy hq) | with_reducible apply trivial | with_reducible apply Exists.intro () | (with_reducible apply ex_side; (first | with_reducible assumption | with_reducible apply fracs1 | with_reducible apply fracs2 | with_reducible apply fracs3 | with_reducible apply spans1 | with_reducible apply spans2 | (with_reducible apply NewRow.keep; with_reducible assumption) | (with_reducible apply RowAt.keep; with_reducible assumption) | assumption | (focus ((repeat (first | with_reducible assumption | (with_reducible apply RowAt.le; rotate_left; with_reducible assumption) | (with_reducible apply RowB.le; rotate_left; with_reducible assumption))); done)))) | (with_reducible apply ex_side (a := (_, _)); (focus (with_reducible apply And.intro <;> (focus ((repeat (first | with_reducible assumption | (with_reducible apply RowAt.le; rotate_left; with_reducible assumption) | (with_reducible apply RowB.le; rotate_left; with_reducible assumption))); done))))))); (all_goals (conv => whnf)))
    (all_goals (try dsimp only [Q.eta, Sn.eta, SlV.eta] at *)); (all_goals (first | exact Side.mk trivial | with_reducible exact Side.mk rfl | exact Side.mk (fun _ _ h => h) | exact Side.mk (Made.le (by assumption)) | refine Side.mk ?_ | refine Don.mk ?_ | skip))
    all_goals first | exact not_f (by assumption) | (refine congrArg (fun z => AV.v (Value.bool z)) ?_; simp_all [okC, witQ]; done) | (exfalso; exact hall (not_f (by assumption)))

end Go.Proofs.YtadliapkjijahaaGreatDoor
