/- The card of the statement FnScales: a scale from which its errors are taken is even, a scale that is warmed by nothing stays, no error is greater than the worst one, and scales are read from their texts. Conditions: none beyond the statement's own. (Built with what is known of the variables: GTV=.R) -/
import Derived.Test.YtadliapkjijahaaGreatDoorAb
import Derived.Test.YtadliapkjijahaaGreatDoorC1
import Derived.Test.YtadliapkjijahaaGreatDoorC2
import Derived.Test.YtadliapkjijahaaGreatDoorC3
import Derived.Test.YtadliapkjijahaaGreatDoorC4
import Derived.Test.YtadliapkjijahaaGreatDoorC5
import Derived.Test.YtadliapkjijahaaGreatDoorCL
import Derived.Test.YtadliapkjijahaaGreatDoorC6
import Derived.Test.YtadliapkjijahaaGreatDoorC7
import Derived.Test.YtadliapkjijahaaGreatDoorC8
import Derived.Test.YtadliapkjijahaaGreatDoorC9
import Derived.Test.YtadliapkjijahaaGreatDoorCO
import Derived.Test.YtadliapkjijahaaGreatDoorC10
import Derived.Test.YtadliapkjijahaaGreatDoorC12
import Derived.Test.YtadliapkjijahaaGreatDoorC13
import Derived.Test.YtadliapkjijahaaGreatDoorC14
import Derived.Test.YtadliapkjijahaaGreatDoorC15
import Derived.Test.YtadliapkjijahaaGreatDoorC16
import Derived.Test.YtadliapkjijahaaGreatDoorC17
import Derived.Test.YtadliapkjijahaaGreatDoorC24
import Derived.Test.YtadliapkjijahaaGreatDoorC25
import Derived.Test.YtadliapkjijahaaGreatDoorC27
import Derived.Test.YtadliapkjijahaaGreatDoorC30
import Derived.Test.YtadliapkjijahaaGreatDoorC31
import Derived.Test.YtadliapkjijahaaGreatDoorC33
import Derived.Test.YtadliapkjijahaaGreatDoorC34
import Derived.Test.YtadliapkjijahaaGreatDoorCN
import Derived.Test.YtadliapkjijahaaGreatDoorCK
import Derived.Test.YtadliapkjijahaaGreatDoorCG
import Derived.Test.YtadliapkjijahaaGreatDoorCF
import Derived.Test.YtadliapkjijahaaGreatDoorCJ
import Derived.Test.YtadliapkjijahaaGreatDoorCP
import Derived.Test.YtadliapkjijahaaGreatDoorCQ
import Derived.Test.YtadliapkjijahaaGreatDoorC50
import Derived.Test.YtadliapkjijahaaGreatDoorC52
import Derived.Test.YtadliapkjijahaaGreatDoorC53
import Derived.Test.YtadliapkjijahaaGreatDoorC54
import Derived.Test.YtadliapkjijahaaGreatDoorC55
import Derived.Test.YtadliapkjijahaaGreatDoorC56
import Derived.Test.YtadliapkjijahaaGreatDoorC60
import Derived.Test.YtadliapkjijahaaGreatDoorC62
import Derived.Test.YtadliapkjijahaaGreatDoorC70
import Derived.Test.YtadliapkjijahaaGreatDoorC72
import Derived.Test.YtadliapkjijahaaGreatDoorC76
import Derived.Test.YtadliapkjijahaaGreatDoorC77
import Derived.Test.YtadliapkjijahaaGreatDoorC80
import Derived.Test.YtadliapkjijahaaGreatDoorC81
import Derived.Test.YtadliapkjijahaaGreatDoorCB
import Derived.Test.YtadliapkjijahaaGreatDoorF
import Derived.Test.YtadliapkjijahaaGreatDoorCZ
import Derived.Test.YtadliapkjijahaaGreatDoorProg
import Derived.Test.YtadliapkjijahaaGreatDoorChecked
import Derived.Test.YtadliapkjijahaaGreatDoorRows
import Derived.Test.YtadliapkjijahaaGreatDoorTie
import Derived.Test.YtadliapkjijahaaGreatDoorCards
import Derived.WalkKit
import Derived.ProofKit
import Derived.OpenShut
import Derived.ChangeOld
import Derived.Below
import Derived.SizedLaws
import Derived.LaidLaws
import Derived.LaidMore
import Derived.SevenTiedAt
import Derived.Lib.LaidTab
import Derived.Stop.Joined
import Derived.Lay
set_option linter.unusedVariables false
set_option linter.unusedSimpArgs false
namespace Go.Proofs.YtadliapkjijahaaGreatDoor
open Ab

attribute [local irreducible] qsubR lessB worstR markR makeR corR warR readC ctxt okC
theorem any_step {l : List Q} {k : Nat} {e : Q} {f : Q → Bool} (h : l[k]? = some e) : (l.take (k + 1)).any f = ((l.take k).any f || f e) := by
  have h1 := (List.getElem?_eq_some_iff.1 h).1
  have h2 := (List.getElem?_eq_some_iff.1 h).2
  rw [List.take_succ_eq_append_getElem h1, List.any_append, h2]
  simp

abbrev lawSp : Sp := .rf SS (fun x (l : List Int × List Int) E => Bytes8 x.1 l.1 E ∧ Bytes8 x.2.1 l.2 E) (fun _ _ => .bool true)
set_option maxHeartbeats 40000000 in
set_option maxRecDepth 100000 in
theorem law_ok : Sp.ok Tryz.prog 5 lawSp := by
  refine Sp.rf_ok (T := ⟨[(6, bigSp), (30, p6scaleSp), (31, ctxtTSp), (26, irsTSp), (32, corTSp), (33, warTSp), (34, worstTSp), (23, p6pickSp), (35, makeTSp), (36, warTSp), (37, sameCSp), (38, sameCSp), (39, markTSp), (17, ssubTSp), (22, lessTSp)], []⟩) follows eqokF ⟨enters Tryz.func6 rfl rfl, big_ok, enters Tryz.func30 rfl rfl, p6scale_ok, enters Tryz.func31 rfl rfl, ctxtT_ok, enters Tryz.func26 rfl rfl, irsT_ok, enters Tryz.func32 rfl rfl, corT_ok, enters Tryz.func33 rfl rfl, warT_ok, enters Tryz.func34 rfl rfl, worstT_ok, enters Tryz.func23 rfl rfl, p6pick_ok, enters Tryz.func35 rfl rfl, makeT_ok, enters Tryz.func36 rfl rfl, swarT_ok, enters Tryz.func37 rfl rfl, ssameC_ok, enters Tryz.func38 rfl rfl, sameC_ok, enters Tryz.func39 rfl rfl, markT_ok, enters Tryz.func17 rfl rfl, ssubT_ok, enters Tryz.func22 rfl rfl, lessT_ok, trivial⟩ [(25, .take 0 (.take 1 (.alt 2 (.take 3 (.take 4 (.take 5 (.take 6 (.take 7 (.take 8 (.take 9 (.take 10 (.take 11 (.take 12 (.take 13 (.take 14 (.take 15 (.take 16 (.take 17 (.take 18 (.take 19 (.take 20 (.take 21 (.take 22 (.take 23 (.done)))))))))))))))))))))) (.last))))] Tryz.func5 rfl (by kernel_rfl) _ _ _ fun x l E hp => ?_
  obtain ⟨⟨sa, n, c⟩, ⟨sa2, n2, c2⟩, u⟩ := x
  obtain ⟨bs, bs2⟩ := l
  obtain ⟨hb1, hb2⟩ := hp
  dsimp only at hb1 hb2
  (repeat' ((conv => whnf); (first | with_reducible apply And.intro | (with_reducible intro hh; first | (with_reducible have hx := NewRow.self hh; clear hx) | (with_reducible have hrow := Made.row hh; have hle := Made.le hh; have hmade := hh; clear hh) | (with_reducible have hrow := Fresh.rowS hh; have hle := Fresh.leS hh; have hfr := hh; clear hh) | (with_reducible have hx := Ext.self hh; clear hx) | (with_reducible have hx := SlV.self hh; clear hx) | (with_reducible have hx := Value.self hh; clear hx) | with_reducible cases hh | skip) | (with_reducible apply AllEq.mk; intro yy hq) | with_reducible apply trivial | with_reducible apply Exists.intro () | (with_reducible apply ex_side; (first | with_reducible assumption | with_reducible apply fracs1 | with_reducible apply fracs2 | with_reducible apply fracs3 | with_reducible apply spans1 | with_reducible apply spans2 | (with_reducible apply NewRow.keep; with_reducible assumption) | (with_reducible apply RowAt.keep; with_reducible assumption) | assumption | (focus ((repeat (first | with_reducible assumption | (with_reducible apply RowAt.le; rotate_left; with_reducible assumption) | (with_reducible apply RowB.le; rotate_left; with_reducible assumption))); done)))) | (with_reducible apply ex_side (a := (_, _)); (focus (with_reducible apply And.intro <;> (focus ((repeat (first | with_reducible assumption | (with_reducible apply RowAt.le; rotate_left; with_reducible assumption) | (with_reducible apply RowB.le; rotate_left; with_reducible assumption))); done))))))); (all_goals (conv => whnf)))
  (all_goals (try dsimp only [Q.eta, Sn.eta, SlV.eta] at *)); (all_goals (first | exact Side.mk trivial | with_reducible exact Side.mk rfl | exact Side.mk (fun _ _ h => h) | exact Side.mk (Made.le (by assumption)) | refine Side.mk ?_ | refine Don.mk ?_ | skip))
  · rfl
  rotate_left
  · rfl
  refine ⟨bs, Side.mk ⟨hb1, (by decide : (2 : Int) ≤ 4), (by decide : (4 : Int) ≤ 50)⟩, ?_⟩
  with_reducible intro y E1 h1
  have hq := h1.out
  have k1 := hq.1
  have hF := hq.2.1
  have hC := hq.2.2.1
  clear h1 hq
  have hB1 : Bytes8 ⟨sa2, n2, c2⟩ bs2 E1 := ⟨RowAt.le hb2.1 k1.le, hb2.2⟩
  obtain ⟨⟨⟨u1, u2⟩, ⟨ea, en, ec⟩⟩, l⟩ := y
  dsimp only at hF hC
  have hR := read_law hC
  have hT := ctxt_len hC
  obtain ⟨txt, htx⟩ : ∃ txt, txt = ctxt ⟨u1, u2⟩ l := ⟨_, rfl⟩
  rw [← htx] at hT hR
  rw [← bl_strB txt] at hR
  clear hb1 hb2 k1
  (repeat' ((conv => whnf); (first | with_reducible apply And.intro | (with_reducible intro hh; first | (with_reducible have hx := NewRow.self hh; clear hx) | (with_reducible have hrow := Made.row hh; have hle := Made.le hh; have hmade := hh; clear hh) | (with_reducible have hrow := Fresh.rowS hh; have hle := Fresh.leS hh; have hfr := hh; clear hh) | (with_reducible have hx := Ext.self hh; clear hx) | (with_reducible have hx := SlV.self hh; clear hx) | (with_reducible have hx := Value.self hh; clear hx) | with_reducible cases hh | skip) | (with_reducible apply AllEq.mk; intro yy hq) | with_reducible apply trivial | with_reducible apply Exists.intro () | (with_reducible apply ex_side; (first | with_reducible assumption | with_reducible apply fracs1 | with_reducible apply fracs2 | with_reducible apply fracs3 | with_reducible apply spans1 | with_reducible apply spans2 | (with_reducible apply NewRow.keep; with_reducible assumption) | (with_reducible apply RowAt.keep; with_reducible assumption) | assumption | (focus ((repeat (first | with_reducible assumption | (with_reducible apply RowAt.le; rotate_left; with_reducible assumption) | (with_reducible apply RowB.le; rotate_left; with_reducible assumption))); done)))) | (with_reducible apply ex_side (a := (_, _)); (focus (with_reducible apply And.intro <;> (focus ((repeat (first | with_reducible assumption | (with_reducible apply RowAt.le; rotate_left; with_reducible assumption) | (with_reducible apply RowB.le; rotate_left; with_reducible assumption))); done))))))); (all_goals (conv => whnf)))
  (all_goals (try dsimp only [Q.eta, Sn.eta, SlV.eta] at *)); (all_goals (first | exact Side.mk trivial | with_reducible exact Side.mk rfl | exact Side.mk (fun _ _ h => h) | exact Side.mk (Made.le (by assumption)) | refine Side.mk ?_ | refine Don.mk ?_ | skip))
  rename_i y2 E2
  have hf2 := hh.out
  have r2 := hf2.row
  have k2 := hf2.keeps.le
  clear hh hf2 hT hR htx
  obtain ⟨b1, b2, b3⟩ := y2
  try dsimp only at r2
  have hF2 := RowAt.le hF k2
  have hB2 : Bytes8 ⟨sa2, n2, c2⟩ bs2 E2 := ⟨RowAt.le hB1.1 k2, hB1.2⟩
  clear hF hB1 k2
  refine ⟨((l, l), zerosL l), Side.mk ⟨hF2, hF2, cor_law hC⟩, ?_⟩
  with_reducible intro y3 E3 h3
  have r3 := h3.out.row
  have k3 := h3.out.le
  clear h3
  obtain ⟨v1, v2, v3⟩ := y3
  try dsimp only at r3
  have hF3 := RowAt.le hF2 k3
  have r23 := RowAt.le r2 k3
  have hB3 : Bytes8 ⟨sa2, n2, c2⟩ bs2 E3 := ⟨RowAt.le hB2.1 k3, hB2.2⟩
  clear hF2 r2 hB2 k3
  (repeat' ((conv => whnf); (first | with_reducible apply And.intro | (with_reducible intro hh; first | (with_reducible have hx := NewRow.self hh; clear hx) | (with_reducible have hrow := Made.row hh; have hle := Made.le hh; have hmade := hh; clear hh) | (with_reducible have hrow := Fresh.rowS hh; have hle := Fresh.leS hh; have hfr := hh; clear hh) | (with_reducible have hx := Ext.self hh; clear hx) | (with_reducible have hx := SlV.self hh; clear hx) | (with_reducible have hx := Value.self hh; clear hx) | with_reducible cases hh | skip) | (with_reducible apply AllEq.mk; intro yy hq) | with_reducible apply trivial | with_reducible apply Exists.intro () | (with_reducible apply ex_side; (first | with_reducible assumption | with_reducible apply fracs1 | with_reducible apply fracs2 | with_reducible apply fracs3 | with_reducible apply spans1 | with_reducible apply spans2 | (with_reducible apply NewRow.keep; with_reducible assumption) | (with_reducible apply RowAt.keep; with_reducible assumption) | assumption | (focus ((repeat (first | with_reducible assumption | (with_reducible apply RowAt.le; rotate_left; with_reducible assumption) | (with_reducible apply RowB.le; rotate_left; with_reducible assumption))); done)))) | (with_reducible apply ex_side (a := (_, _)); (focus (with_reducible apply And.intro <;> (focus ((repeat (first | with_reducible assumption | (with_reducible apply RowAt.le; rotate_left; with_reducible assumption) | (with_reducible apply RowB.le; rotate_left; with_reducible assumption))); done))))))); (all_goals (conv => whnf)))
  (all_goals (try dsimp only [Q.eta, Sn.eta, SlV.eta] at *)); (all_goals (first | exact Side.mk trivial | with_reducible exact Side.mk rfl | exact Side.mk (fun _ _ h => h) | exact Side.mk (Made.le (by assumption)) | refine Side.mk ?_ | refine Don.mk ?_ | skip))
  refine ⟨(l, ((⟨u1, u2⟩, l), 0)), Side.mk ⟨hF3, war_law hC⟩, ?_⟩
  with_reducible intro y4 E4 h4
  have r4 := h4.out.row
  have k4 := h4.out.le
  clear h4
  obtain ⟨x1, x2, x3⟩ := y4
  try dsimp only at r4
  have hF4 := RowAt.le hF3 k4
  have r24 := RowAt.le r23 k4
  have r34 := RowAt.le r3 k4
  have hB4 : Bytes8 ⟨sa2, n2, c2⟩ bs2 E4 := ⟨RowAt.le hB3.1 k4, hB3.2⟩
  clear hF3 r23 r3 hB3 k4
  obtain ⟨⟨w1, w2⟩, hw, hwl, hwf⟩ := worst_law hC
  have hn := none_law hC
  (repeat' ((conv => whnf); (first | with_reducible apply And.intro | (with_reducible intro hh; first | (with_reducible have hx := NewRow.self hh; clear hx) | (with_reducible have hrow := Made.row hh; have hle := Made.le hh; have hmade := hh; clear hh) | (with_reducible have hrow := Fresh.rowS hh; have hle := Fresh.leS hh; have hfr := hh; clear hh) | (with_reducible have hx := Ext.self hh; clear hx) | (with_reducible have hx := SlV.self hh; clear hx) | (with_reducible have hx := Value.self hh; clear hx) | with_reducible cases hh | skip) | (with_reducible apply AllEq.mk; intro yy hq) | with_reducible apply trivial | with_reducible apply Exists.intro () | (with_reducible apply ex_side; (first | with_reducible assumption | with_reducible apply fracs1 | with_reducible apply fracs2 | with_reducible apply fracs3 | with_reducible apply spans1 | with_reducible apply spans2 | (with_reducible apply NewRow.keep; with_reducible assumption) | (with_reducible apply RowAt.keep; with_reducible assumption) | assumption | (focus ((repeat (first | with_reducible assumption | (with_reducible apply RowAt.le; rotate_left; with_reducible assumption) | (with_reducible apply RowB.le; rotate_left; with_reducible assumption))); done)))) | (with_reducible apply ex_side (a := (_, _)); (focus (with_reducible apply And.intro <;> (focus ((repeat (first | with_reducible assumption | (with_reducible apply RowAt.le; rotate_left; with_reducible assumption) | (with_reducible apply RowB.le; rotate_left; with_reducible assumption))); done))))))); (all_goals (conv => whnf)))
  (all_goals (try dsimp only [Q.eta, Sn.eta, SlV.eta] at *)); (all_goals (first | exact Side.mk trivial | with_reducible exact Side.mk rfl | exact Side.mk (fun _ _ h => h) | exact Side.mk (Made.le (by assumption)) | refine Side.mk ?_ | refine Don.mk ?_ | skip))
  refine ⟨bs2, Side.mk ⟨hB4, (by decide : (21 : Int) ≤ 1000000000)⟩, ?_⟩
  with_reducible intro v E5 h5
  have hq5 := h5.out
  have k5 := hq5.1.le
  have v0 := hq5.2.1
  have v21 : v < 21 := hq5.2.2.1 (by show (1 : Int) ≤ 21; decide)
  clear h5 hq5 hB4
  have hF5 := RowAt.le hF4 k5
  have r25 := RowAt.le r24 k5
  have r35 := RowAt.le r34 k5
  have r45 := RowAt.le r4 k5
  clear hF4 r24 r34 r4 k5
  have hwv : IntKind.i64.wrap (v - 10) = v - 10 := wrap_in (by omega) (by omega)
  obtain ⟨⟨d1, d2⟩, hm, hd⟩ := make_law v0 v21
  rw [← hwv] at hm
  clear hwv hw hn
  (repeat' ((conv => whnf); (first | with_reducible apply And.intro | (with_reducible intro hh; first | (with_reducible have hx := NewRow.self hh; clear hx) | (with_reducible have hrow := Made.row hh; have hle := Made.le hh; have hmade := hh; clear hh) | (with_reducible have hrow := Fresh.rowS hh; have hle := Fresh.leS hh; have hfr := hh; clear hh) | (with_reducible have hx := Ext.self hh; clear hx) | (with_reducible have hx := SlV.self hh; clear hx) | (with_reducible have hx := Value.self hh; clear hx) | with_reducible cases hh | skip) | (with_reducible apply AllEq.mk; intro yy hq) | with_reducible apply trivial | with_reducible apply Exists.intro () | (with_reducible apply ex_side; (first | with_reducible assumption | with_reducible apply fracs1 | with_reducible apply fracs2 | with_reducible apply fracs3 | with_reducible apply spans1 | with_reducible apply spans2 | (with_reducible apply NewRow.keep; with_reducible assumption) | (with_reducible apply RowAt.keep; with_reducible assumption) | assumption | (focus ((repeat (first | with_reducible assumption | (with_reducible apply RowAt.le; rotate_left; with_reducible assumption) | (with_reducible apply RowB.le; rotate_left; with_reducible assumption))); done)))) | (with_reducible apply ex_side (a := (_, _)); (focus (with_reducible apply And.intro <;> (focus ((repeat (first | with_reducible assumption | (with_reducible apply RowAt.le; rotate_left; with_reducible assumption) | (with_reducible apply RowB.le; rotate_left; with_reducible assumption))); done))))))); (all_goals (conv => whnf)))
  (all_goals (try dsimp only [Q.eta, Sn.eta, SlV.eta] at *)); (all_goals (first | exact Side.mk trivial | with_reducible exact Side.mk rfl | exact Side.mk (fun _ _ h => h) | exact Side.mk (Made.le (by assumption)) | refine Side.mk ?_ | refine Don.mk ?_ | skip))
  generalize hW : warR ⟨u1, u2⟩ l ⟨d1, d2⟩ = W
  obtain ⟨⟨⟨g1, g2⟩, gl⟩, gc⟩ := W
  refine ⟨(l, ((⟨g1, g2⟩, gl), gc)), Side.mk ⟨hF5, hW⟩, ?_⟩
  with_reducible intro y6 E6 h6
  have r6 := h6.out.row
  have k6 := h6.out.le
  clear h6
  obtain ⟨z1, z2, z3⟩ := y6
  try dsimp only at r6
  have hF6 := RowAt.le hF5 k6
  have r26 := RowAt.le r25 k6
  have r36 := RowAt.le r35 k6
  have r46 := RowAt.le r45 k6
  have hW2 := Side.mk hW
  clear hF5 r25 r35 r45 k6 hW
  (repeat' ((conv => whnf); (first | with_reducible apply And.intro | (with_reducible intro hh; first | (with_reducible have hx := NewRow.self hh; clear hx) | (with_reducible have hrow := Made.row hh; have hle := Made.le hh; have hmade := hh; clear hh) | (with_reducible have hrow := Fresh.rowS hh; have hle := Fresh.leS hh; have hfr := hh; clear hh) | (with_reducible have hx := Ext.self hh; clear hx) | (with_reducible have hx := SlV.self hh; clear hx) | (with_reducible have hx := Value.self hh; clear hx) | with_reducible cases hh | skip) | (with_reducible apply AllEq.mk; intro yy hq) | with_reducible apply trivial | with_reducible apply Exists.intro () | (with_reducible apply ex_side; (first | with_reducible assumption | with_reducible apply fracs1 | with_reducible apply fracs2 | with_reducible apply fracs3 | with_reducible apply spans1 | with_reducible apply spans2 | (with_reducible apply NewRow.keep; with_reducible assumption) | (with_reducible apply RowAt.keep; with_reducible assumption) | assumption | (focus ((repeat (first | with_reducible assumption | (with_reducible apply RowAt.le; rotate_left; with_reducible assumption) | (with_reducible apply RowB.le; rotate_left; with_reducible assumption))); done)))) | (with_reducible apply ex_side (a := (_, _)); (focus (with_reducible apply And.intro <;> (focus ((repeat (first | with_reducible assumption | (with_reducible apply RowAt.le; rotate_left; with_reducible assumption) | (with_reducible apply RowB.le; rotate_left; with_reducible assumption))); done))))))); (all_goals (conv => whnf)))
  (all_goals (try dsimp only [Q.eta, Sn.eta, SlV.eta] at *)); (all_goals (first | exact Side.mk trivial | with_reducible exact Side.mk rfl | exact Side.mk (fun _ _ h => h) | exact Side.mk (Made.le (by assumption)) | refine Side.mk ?_ | refine Don.mk ?_ | skip))
  refine ⟨(l, ((⟨g1, g2⟩, gl), gc)), Side.mk ⟨hF6, hW2.out⟩, ?_⟩
  with_reducible intro y7 E7 h7
  have r7 := h7.out.row
  have k7 := h7.out.le
  clear h7
  obtain ⟨j1, j2, j3⟩ := y7
  try dsimp only at r7
  have hF7 := RowAt.le hF6 k7
  have r27 := RowAt.le r26 k7
  have r37 := RowAt.le r36 k7
  have r47 := RowAt.le r46 k7
  have r67 := RowAt.le r6 k7
  clear hF6 r26 r36 r46 r6 k7 hm hd hW2
  (repeat' ((conv => whnf); (first | with_reducible apply And.intro | (with_reducible intro hh; first | (exfalso; have hbb : (_ : Bool) = _ := hh; revert hh; clear hbb; simp [Nat.lt_irrefl]; done) | (with_reducible have hx := NewRow.self hh; clear hx) | (with_reducible have hrow := Made.row hh; have hle := Made.le hh; have hmade := hh; clear hh) | (with_reducible have hrow := Fresh.rowS hh; have hle := Fresh.leS hh; have hfr := hh; clear hh) | (with_reducible have hx := Ext.self hh; clear hx) | (with_reducible have hx := SlV.self hh; clear hx) | (with_reducible have hx := Value.self hh; clear hx) | with_reducible cases hh | skip) | (with_reducible apply AllEq.mk; intro yy hq) | with_reducible apply trivial | with_reducible apply Exists.intro () | (with_reducible apply ex_side; (first | with_reducible assumption | with_reducible apply fracs1 | with_reducible apply fracs2 | with_reducible apply fracs3 | with_reducible apply spans1 | with_reducible apply spans2 | (with_reducible apply NewRow.keep; with_reducible assumption) | (with_reducible apply RowAt.keep; with_reducible assumption) | assumption | (focus ((repeat (first | with_reducible assumption | (with_reducible apply RowAt.le; rotate_left; with_reducible assumption) | (with_reducible apply RowB.le; rotate_left; with_reducible assumption))); done)))) | (with_reducible apply ex_side (a := (_, _)); (focus (with_reducible apply And.intro <;> (focus ((repeat (first | with_reducible assumption | (with_reducible apply RowAt.le; rotate_left; with_reducible assumption) | (with_reducible apply RowB.le; rotate_left; with_reducible assumption))); done))))))); (all_goals (conv => whnf)))
  (all_goals (try dsimp only [Q.eta, Sn.eta, SlV.eta] at *)); (all_goals (first | exact Side.mk trivial | with_reducible exact Side.mk rfl | exact Side.mk (fun _ _ h => h) | exact Side.mk (Made.le (by assumption)) | refine Side.mk ?_ | refine Don.mk ?_ | skip))
  clear r27 r47 r67 r7
  have hlen : en = l.length := hF7.1
  have hmax : en ≤ maxLen := hF7.2.1
  refine ⟨fun m s => ∃ (k : Nat) (i : Int) (fl : Bool) (wg : Nat → AV) (ww : Nat → Value), m = l.length - k ∧ k ≤ l.length ∧ i = (k : Int) ∧ fl = ((l.take k).any fun e => decide (sizQ e = ⟨w1, w2⟩)) ∧ s = ⟨[.v (ww 0), .v (ww 1), .v (ww 2), .v (ww 3), .v (ww 4), .p 0 0, wg 0, .v (ww 5), .p 2 0, .v (ww 6), wg 1, .v (ww 7), .p 4 0, .v (ww 8), wg 2, .v (ww 9), wg 3, wg 4, .v (ww 10), wg 5, .v (ww 11), wg 6, .v (ww 12), .v (.bool fl), .v (.int .i64 i), wg 7, wg 8, wg 9, wg 10, wg 11, wg 12, wg 13, .v (ww 13), .v (ww 14), .v (ww 15), .v (ww 16), .v (ww 17), .v (ww 18), .v (ww 19), .v (ww 20), .v (ww 21), .v (ww 22), .v (ww 23), .v (ww 24), .v (ww 25), .v (ww 26), .v (ww 27), .v (ww 28), wg 14, .v (ww 29), .v (ww 30), .v (ww 31), .v (ww 32), .v (ww 33), .v (ww 34), .v (ww 35), .v (ww 36), .v (ww 37), .v (ww 38), .v (ww 39), .v (ww 40), .v (ww 41), .v (ww 42), .v (ww 43), .v (ww 44), .v (ww 45), .v (ww 46), .v (ww 47), .v (ww 48), .v (ww 49), .v (ww 50), .v (ww 51), .v (ww 52), .v (ww 53), wg 15, .v (ww 54), wg 16, .v (ww 55), .v (ww 56), .v (ww 57), .v (ww 58), .v (ww 59), .v (ww 60), .v (ww 61), .v (ww 62), .v (ww 63), .v (ww 64), .v (ww 65), .v (ww 66), .v (ww 67), .v (ww 68), .v (ww 69), .v (ww 70), .v (ww 71), .v (ww 72), .v (ww 73), .v (ww 74), .v (ww 75), .v (ww 76), .v (ww 77), .v (ww 78), .v (ww 79), .v (ww 80), .v (ww 81), .v (ww 82), .v (ww 83), .v (ww 84), .v (ww 85), .v (ww 86), .v (ww 87), .v (ww 88), .v (ww 89), .v (ww 90), .v (ww 91), .v (ww 92), .v (ww 93), .v (ww 94), .v (ww 95), .v (ww 96), .v (ww 97), .v (ww 98), .v (ww 99), .v (ww 100), .v (ww 101), .v (ww 102), .v (ww 103), .v (ww 104), .v (ww 105), .v (ww 106), .v (ww 107), wg 17, .v (ww 108), .v (ww 109), .v (ww 110), .v (ww 111), .v (ww 112), .v (ww 113), .v (ww 114), .v (ww 115), .v (ww 116), .v (ww 117), .v (ww 118), .v (ww 119), .v (ww 120), .v (ww 121), .v (ww 122), .v (ww 123), .v (ww 124), .v (ww 125), wg 18, wg 19, wg 20, wg 21, wg 22, wg 23, wg 24, wg 25, wg 26, wg 27, wg 28, wg 29, wg 30, wg 31, wg 32, wg 33, wg 34, wg 35, wg 36, wg 37, wg 38, wg 39, wg 40, wg 41, wg 42, wg 43, wg 44, wg 45, wg 46, wg 47, wg 48, wg 49, wg 50, wg 51, wg 52, wg 53, wg 54, wg 55, wg 56, wg 57, wg 58, wg 59, wg 60, wg 61, wg 62, wg 63, wg 64, wg 65, wg 66, wg 67, wg 68, wg 69, wg 70, wg 71, wg 72, wg 73, wg 74, wg 75, wg 76, wg 77, wg 78, wg 79, wg 80, wg 81, wg 82, wg 83, wg 84, .v (ww 126)], [([.int .i64 u1, .int .i64 u2, .slice ea en ec], 49), ([.int .i64 u1, .int .i64 u2, .slice b1 b2 b3], 49), ([.int .i64 u1, .int .i64 u2, .slice v1 v2 v3], 49), ([.int .i64 u1, .int .i64 u2, .slice x1 x2 x3], 49), ([.int .i64 w1, .int .i64 w2], 25), ([.int .i64 0, .int .i64 1], 25), ([.int .i64 (IntKind.i64.wrap (v - 10)), .int .i64 100], 25), ([.int .i64 d1, .int .i64 d2], 25), ([.int .i64 g1, .int .i64 g2, .slice z1 z2 z3], 49), ([.int .i64 g1, .int .i64 g2, .slice j1 j2 j3], 49)], E7⟩, ⟨l.length, 0, 0, false, nthA [_, _, _, _, _, _, _, _, _, _, _, _, _, _, _, _, _, _, _, _, _, _, _, _, _, _, _, _, _, _, _, _, _, _, _, _, _, _, _, _, _, _, _, _, _, _, _, _, _, _, _, _, _, _, _, _, _, _, _, _, _, _, _, _, _, _, _, _, _, _, _, _, _, _, _, _, _, _, _, _, _, _, _, _, _], nthV [_, _, _, _, _, _, _, _, _, _, _, _, _, _, _, _, _, _, _, _, _, _, _, _, _, _, _, _, _, _, _, _, _, _, _, _, _, _, _, _, _, _, _, _, _, _, _, _, _, _, _, _, _, _, _, _, _, _, _, _, _, _, _, _, _, _, _, _, _, _, _, _, _, _, _, _, _, _, _, _, _, _, _, _, _, _, _, _, _, _, _, _, _, _, _, _, _, _, _, _, _, _, _, _, _, _, _, _, _, _, _, _, _, _, _, _, _, _, _, _, _, _, _, _, _, _, _], rfl, Nat.zero_le _, rfl, rfl, rfl⟩, ?_⟩
  rintro m s ⟨k, i, fl, wg, ww, rfl, hk, rfl, hfl, rfl⟩
  rcases hkl : l[k]? with _ | ⟨e1, e2⟩
  · have hge : l.length ≤ k := List.getElem?_eq_none_iff.1 hkl
    have hkn : ¬ ((k : Int) < (en : Int)) := by omega
    (repeat' ((conv => whnf); (first | with_reducible apply And.intro | (with_reducible intro hh; first | (exfalso; have hbb : (_ : Bool) = _ := hh; revert hh; clear hbb; simp [hkn]; done) | (with_reducible have hx := NewRow.self hh; clear hx) | (with_reducible have hrow := Made.row hh; have hle := Made.le hh; have hmade := hh; clear hh) | (with_reducible have hrow := Fresh.rowS hh; have hle := Fresh.leS hh; have hfr := hh; clear hh) | (with_reducible have hx := Ext.self hh; clear hx) | (with_reducible have hx := SlV.self hh; clear hx) | (with_reducible have hx := Value.self hh; clear hx) | with_reducible cases hh | skip) | (with_reducible apply AllEq.mk; intro yy hq) | with_reducible apply trivial | with_reducible apply Exists.intro () | (with_reducible apply ex_side; (first | with_reducible assumption | with_reducible apply fracs1 | with_reducible apply fracs2 | with_reducible apply fracs3 | with_reducible apply spans1 | with_reducible apply spans2 | (with_reducible apply NewRow.keep; with_reducible assumption) | (with_reducible apply RowAt.keep; with_reducible assumption) | assumption | (focus ((repeat (first | with_reducible assumption | (with_reducible apply RowAt.le; rotate_left; with_reducible assumption) | (with_reducible apply RowB.le; rotate_left; with_reducible assumption))); done)))) | (with_reducible apply ex_side (a := (_, _)); (focus (with_reducible apply And.intro <;> (focus ((repeat (first | with_reducible assumption | (with_reducible apply RowAt.le; rotate_left; with_reducible assumption) | (with_reducible apply RowB.le; rotate_left; with_reducible assumption))); done))))))); (all_goals (conv => whnf)))
    (all_goals (try dsimp only [Q.eta, Sn.eta, SlV.eta] at *)); (all_goals (first | exact Side.mk trivial | with_reducible exact Side.mk rfl | exact Side.mk (fun _ _ h => h) | exact Side.mk (Made.le (by assumption)) | refine Side.mk ?_ | refine Don.mk ?_ | skip))
    rw [hfl, List.take_of_length_le hge]
    obtain ⟨e, he, hew⟩ := hwf
    have : (l.any fun e => decide (sizQ e = ⟨w1, w2⟩)) = true := List.any_eq_true.2 ⟨e, he, decide_eq_true hew⟩
    rw [this]
  · have hlt : k < l.length := (List.getElem?_eq_some_iff.1 hkl).1
    have hkn : (k : Int) < (en : Int) := by omega
    cases ea with
    | none => have := hF7.2.2.1 rfl; rw [this] at hkl; cases hkl
    | some ad =>
    obtain ⟨h0, h1⟩ := FracsAt.at hF7 (a := ad) rfl hkl
    obtain ⟨⟨a1, a2⟩, ⟨o1, o2⟩, hma, hmb, hms⟩ := mark_law hC hkl
    dsimp only at h0 h1
    have hmem := List.mem_of_getElem? hkl
    have hob := (okQ_iff.1 (hC.errs _ hmem).ok)
    dsimp only at hob
    have hsz : (if IntKind.i64.wrap (0 - e1) > e1 then IntKind.i64.wrap (0 - e1) else e1) = ((e1.natAbs : Nat) : Int) := by
      rw [wrap_in (by omega) (by omega)]
      split <;> omega
    have hls : false = lessB ⟨w1, w2⟩ ⟨if IntKind.i64.wrap (0 - e1) > e1 then IntKind.i64.wrap (0 - e1) else e1, e2⟩ := by
      rw [hsz]
      exact hwl ⟨e1, e2⟩ hmem
    have hfl := Side.mk hfl
    clear hwl hwf hob
    (repeat' ((conv => whnf); (first | with_reducible apply And.intro | (with_reducible intro hh; first | (exfalso; have hbb : (_ : Bool) = _ := hh; revert hh; clear hbb; simp [hkn]; done) | (with_reducible have hx := NewRow.self hh; clear hx) | (with_reducible have hrow := Made.row hh; have hle := Made.le hh; have hmade := hh; clear hh) | (with_reducible have hrow := Fresh.rowS hh; have hle := Fresh.leS hh; have hfr := hh; clear hh) | (with_reducible have hx := Ext.self hh; clear hx) | (with_reducible have hx := SlV.self hh; clear hx) | (with_reducible have hx := Value.self hh; clear hx) | with_reducible cases hh | skip) | (with_reducible apply AllEq.mk; intro yy hq) | with_reducible apply trivial | with_reducible apply Exists.intro () | (with_reducible apply ex_side; (first | with_reducible assumption | with_reducible apply fracs1 | with_reducible apply fracs2 | with_reducible apply fracs3 | with_reducible apply spans1 | with_reducible apply spans2 | (with_reducible apply NewRow.keep; with_reducible assumption) | (with_reducible apply RowAt.keep; with_reducible assumption) | assumption | (focus ((repeat (first | with_reducible assumption | (with_reducible apply RowAt.le; rotate_left; with_reducible assumption) | (with_reducible apply RowB.le; rotate_left; with_reducible assumption))); done)))) | (with_reducible apply ex_side (a := (_, _)); (focus (with_reducible apply And.intro <;> (focus ((repeat (first | with_reducible assumption | (with_reducible apply RowAt.le; rotate_left; with_reducible assumption) | (with_reducible apply RowB.le; rotate_left; with_reducible assumption))); done))))))); (all_goals (conv => whnf)))
    (all_goals (try dsimp only [Q.eta, Sn.eta, SlV.eta] at *)); (all_goals (first | exact Side.mk trivial | with_reducible exact Side.mk rfl | exact Side.mk (fun _ _ h => h) | exact Side.mk (Made.le (by assumption)) | refine Side.mk ?_ | refine Don.mk ?_ | skip))
    all_goals first
      | exact ⟨by omega, by omega⟩
      | (refine ⟨l.length - (k + 1), by omega, k + 1, _, _, nthA [_, _, _, _, _, _, _, _, _, _, _, _, _, _, _, _, _, _, _, _, _, _, _, _, _, _, _, _, _, _, _, _, _, _, _, _, _, _, _, _, _, _, _, _, _, _, _, _, _, _, _, _, _, _, _, _, _, _, _, _, _, _, _, _, _, _, _, _, _, _, _, _, _, _, _, _, _, _, _, _, _, _, _, _, _], nthV [_, _, _, _, _, _, _, _, _, _, _, _, _, _, _, _, _, _, _, _, _, _, _, _, _, _, _, _, _, _, _, _, _, _, _, _, _, _, _, _, _, _, _, _, _, _, _, _, _, _, _, _, _, _, _, _, _, _, _, _, _, _, _, _, _, _, _, _, _, _, _, _, _, _, _, _, _, _, _, _, _, _, _, _, _, _, _, _, _, _, _, _, _, _, _, _, _, _, _, _, _, _, _, _, _, _, _, _, _, _, _, _, _, _, _, _, _, _, _, _, _, _, _, _, _, _, _], rfl, hlt, wrap_succ (n := en) (by omega) hmax, ?_, rfl⟩
         rw [any_step hkl, ← hfl.out]
         first
           | rfl
           | (rw [hsz]
              by_cases h7 : ((e1.natAbs : Nat) : Int) = w1 <;> by_cases h8 : e2 = w2 <;> simp [sizQ, h7, h8]))
namespace fnScales
open Go.ChangeShapes Go.WideShapes Go.ChangeAt Go.RowKit
theorem door_met (os : Os) (args : Array Value) : laidMetH Tryz.prog Rows.fnScalesRow.laid ((World.laidAll Tryz.prog os Rows.fnScalesRow.laid).forCall (fun _ _ => 0) ⟨#[], args, []⟩).memory := by
  rw [MakeChecks.laidMetH_plain _ _ _ (by kernel_rfl)]
  exact laidMet_laidAll _ (by kernel_rfl) (by kernel_rfl)
theorem globs {W : World} (hsh : W.ShapedOpen Tryz.prog) (h : laidMetH Tryz.prog Rows.fnScalesRow.laid W) : Holds W [] ⟨fun a => W.cell? a, fun _ => none⟩ := holds_laid hsh (by
  rw [MakeChecks.laidMetH_plain _ _ _ (by kernel_rfl)] at h
  exact h)
set_option maxRecDepth 100000 in
theorem lifted (os : Os) (started : os.Started) (H : Type) (enc : TypeId × Value → H) :
    ReturnsInHanded {} Tryz.checked os 5 .any (fun w args => (Rows.fnScalesSpec.pre enc Tryz.prog Tryz.f5 [] false w args ∧ laidMetH Tryz.prog Rows.fnScalesRow.laid w) ∧ sizedMet enc Tryz.prog Tryz.f5 (OpenSpec.ofChange Rows.fnScalesSpec) false w args)
      (Rows.fnScalesSpec.post enc Tryz.prog Tryz.f5 false true false false) := by
  refine handed_both (C := Tryz.checked) (X := fun w _ => laidMetH Tryz.prog Rows.fnScalesRow.laid w) (fun _ _ _ hh h => h.of_heap hh) fact_own started (by kernel_rfl) Tryz.func5
    (ChangeSpec.witness_shaped (enc := enc) (C := Tryz.checked) (os := os) (X := fun w _ => laidMetH Tryz.prog Rows.fnScalesRow.laid w) false (World.laidAll Tryz.prog os Rows.fnScalesRow.laid) #[.slice none 0 0, .slice none 0 0] 8 (World.laidAll_os _ _ _) (World.shaped_of_ZipB (by kernel_rfl) (by kernel_rfl)) (by kernel_rfl) (by kernel_rfl) (by kernel_rfl) (door_met os _)) ?_
  intro W base args ds gs before hval0 hW hcnd hL hsh
  have hval : ∀ (j : Nat) t v, Tryz.f5.params[j]? = some t → args[j]? = some v → Value.okWide Tryz.prog W .any base t v := hval0
  have hW' := hW
  obtain ⟨p, q, hA0, hV, rfl, hfz, hnd⟩ := hW
  have hA : DataW.TrodAll enc Tryz.prog W 0 (fun _ => true) true Tryz.f5.params.toList args.toList ds p := hA0
  rw [Tryz.params5] at hA hval
  obtain ⟨rfl, rfl⟩ := trodVars_none hV
  have opens := OpensL.cons (opens_row (en := fun n => [.int .u8 n]) (W := U8) 1 1 Tryz.underlying22 (by kernel_rfl) (by kernel_rfl) (by kernel_rfl) (each_u8 Tryz.underlying5)) (OpensL.cons (opens_row (en := fun n => [.int .u8 n]) (W := U8) 1 1 Tryz.underlying22 (by kernel_rfl) (by kernel_rfl) (by kernel_rfl) (each_u8 Tryz.underlying5)) (OpensL.nil (P := Tryz.prog)))
  obtain ⟨x, hx, hw⟩ := opens (fun j t v h1 h2 => hval j t v (by simpa using h1) (by simpa using h2)) hA
  obtain ⟨l, hl⟩ := (show ∃ l : List Int × List Int, Bytes8 x.1 l.1 ⟨fun a => W.cell? a, fun _ => none⟩ ∧ Bytes8 x.2.1 l.2 ⟨fun a => W.cell? a, fun _ => none⟩ from (by obtain ⟨⟨l1, h1, k1⟩, ⟨l2, h2, k2⟩, _⟩ := hw; exact ⟨(l1, l2), ⟨h1, k1⟩, ⟨h2, k2⟩⟩))
  have hlt : ∀ y ∈ p, y.block < W.heap.size := fun y hy => hW'.lt y (by simpa using hy)
  refine (Sp.calls (law_ok) hx (l := l) (args := args) rfl hl (globs hsh hL)).mono fun e W' ⟨he, bel⟩ => ?_
  subst he
  obtain ⟨_, _, d0, ds0, _, _, _, rfl, _, _, r0⟩ := trodAll_cons hA
  obtain ⟨_, _, d1, ds1, _, _, _, rfl, _, _, r1⟩ := trodAll_cons r0
  obtain ⟨_, rfl, _⟩ := trodAll_nil r1
  exact ⟨_, rfl, _, _, _, [], _, [], hW', trodAll_mk1 (shut_bool Tryz.underlying4 _), args_stay fact_laid bel (by kernel_rfl) hA hlt, rfl, bel.frame _, fun h => by cases h⟩
theorem closed : joinedFacts Tryz.prog 5 Tryz.f5 Rows.fnScalesSpec Rows.fnScalesRow = true := by
  unfold joinedFacts
  rw [fact_laid, fact_maps, fact_heard, fact_may, fact_lift, fact_make]
  kernel_rfl
theorem over : Rows.fnScalesRow.holds Tryz.pinned (OpenSpec.ofChange Rows.fnScalesSpec) :=
  OpenClaim.holds_of_wide 5 Tryz.f5 rfl rfl rfl rfl rfl rfl rfl ⟨rfl, rfl, rfl, rfl, rfl⟩ rfl rfl rfl rfl rfl (by kernel_rfl) Tryz.func5 closed
    (of_decide_eq_true (by kernel_rfl)) (by unfold Func.isWrapper; first | (rw [if_pos (by decide +kernel)]; kernel_rfl) | (rw [if_neg (by decide +kernel)]; exact ⟨rfl, rfl⟩))
    (fun os started H enc _ => lifted os started H enc)
theorem card : Rows.FnScalesCardSaid :=
  Claim7.holds_tied_plain_at .later [] [.data, .data, .data, .data, .sentinel, .sentinel, .pinned] true Rows.fnScalesCard.stood.harness true
    over (fun _ h => by cases h) (by kernel_rfl) (fun _ h => by cases h) fnScales_row_tie rfl ⟨rfl, rfl⟩ (by kernel_rfl) rfl
    (fun f fn hf hfn => by
      obtain rfl : f = 5 := Option.some.inj ((show Tryz.prog.funcNamed Rows.fnScalesRow.func = some 5 by kernel_rfl).symm.trans hf) |>.symm
      obtain rfl : fn = Tryz.f5 := (Option.some.inj (Tryz.func5.symm.trans hfn)).symm
      exact ⟨by kernel_rfl, fun j t ht => by
        rw [Tryz.params5] at ht
        have hm : t ∈ [22, 22] := by simpa using Array.mem_of_getElem? ht
        have hall : ([22, 22].all fun u => !Tryz.prog.wantsStandIn u) = true := by kernel_rfl
        exact (show Tryz.prog.wantsStandIn t = false by simpa using List.all_eq_true.1 hall t hm)⟩)
    (by kernel_rfl)
end fnScales
/-- The card, under a short name, for the claim. -/
theorem fnScales_holds : Rows.FnScalesCardSaid := fnScales.card


end Go.Proofs.YtadliapkjijahaaGreatDoor
