/- The card of the statement FnSpans: sums, differences and products of numbers lie in those of their spans, what is in both is in each, the hull has all, and spans are read from their texts. Conditions: none beyond the statement's own. (Built with what is known of the variables: GTV=.R) -/
import Derived.Test.YtadliapkjijahaaGreatDoorAb
import Derived.Test.YtadliapkjijahaaGreatDoorC1
import Derived.Test.YtadliapkjijahaaGreatDoorC2
import Derived.Test.YtadliapkjijahaaGreatDoorC3
import Derived.Test.YtadliapkjijahaaGreatDoorC4
import Derived.Test.YtadliapkjijahaaGreatDoorC5
import Derived.Test.YtadliapkjijahaaGreatDoorCL
import Derived.Test.YtadliapkjijahaaGreatDoorC6
import Derived.Test.YtadliapkjijahaaGreatDoorC7
import Derived.Test.YtadliapkjijahaaGreatDoorC8
import Derived.Test.YtadliapkjijahaaGreatDoorC9
import Derived.Test.YtadliapkjijahaaGreatDoorCO
import Derived.Test.YtadliapkjijahaaGreatDoorC10
import Derived.Test.YtadliapkjijahaaGreatDoorC12
import Derived.Test.YtadliapkjijahaaGreatDoorC14
import Derived.Test.YtadliapkjijahaaGreatDoorC24
import Derived.Test.YtadliapkjijahaaGreatDoorC25
import Derived.Test.YtadliapkjijahaaGreatDoorC27
import Derived.Test.YtadliapkjijahaaGreatDoorC28
import Derived.Test.YtadliapkjijahaaGreatDoorC30
import Derived.Test.YtadliapkjijahaaGreatDoorCN
import Derived.Test.YtadliapkjijahaaGreatDoorCS
import Derived.Test.YtadliapkjijahaaGreatDoorCD
import Derived.Test.YtadliapkjijahaaGreatDoorC39
import Derived.Test.YtadliapkjijahaaGreatDoorC40
import Derived.Test.YtadliapkjijahaaGreatDoorC41
import Derived.Test.YtadliapkjijahaaGreatDoorCG
import Derived.Test.YtadliapkjijahaaGreatDoorC42
import Derived.Test.YtadliapkjijahaaGreatDoorC43
import Derived.Test.YtadliapkjijahaaGreatDoorC44
import Derived.Test.YtadliapkjijahaaGreatDoorCK
import Derived.Test.YtadliapkjijahaaGreatDoorCF
import Derived.Test.YtadliapkjijahaaGreatDoorCP
import Derived.Test.YtadliapkjijahaaGreatDoorC50
import Derived.Test.YtadliapkjijahaaGreatDoorC51
import Derived.Test.YtadliapkjijahaaGreatDoorC53
import Derived.Test.YtadliapkjijahaaGreatDoorC54
import Derived.Test.YtadliapkjijahaaGreatDoorC55
import Derived.Test.YtadliapkjijahaaGreatDoorC56
import Derived.Test.YtadliapkjijahaaGreatDoorC57
import Derived.Test.YtadliapkjijahaaGreatDoorC58
import Derived.Test.YtadliapkjijahaaGreatDoorC70
import Derived.Test.YtadliapkjijahaaGreatDoorC72
import Derived.Test.YtadliapkjijahaaGreatDoorC76
import Derived.Test.YtadliapkjijahaaGreatDoorC78
import Derived.Test.YtadliapkjijahaaGreatDoorC79
import Derived.Test.YtadliapkjijahaaGreatDoorCB
import Derived.Test.YtadliapkjijahaaGreatDoorF
import Derived.Test.YtadliapkjijahaaGreatDoorCY
import Derived.Test.YtadliapkjijahaaGreatDoorProg
import Derived.Test.YtadliapkjijahaaGreatDoorChecked
import Derived.Test.YtadliapkjijahaaGreatDoorRows
import Derived.Test.YtadliapkjijahaaGreatDoorTie
import Derived.Test.YtadliapkjijahaaGreatDoorCards
import Derived.WalkKit
import Derived.ProofKit
import Derived.OpenShut
import Derived.ChangeOld
import Derived.Below
import Derived.SizedLaws
import Derived.LaidLaws
import Derived.LaidMore
import Derived.SevenTiedAt
import Derived.Lib.LaidTab
import Derived.Stop.Joined
import Derived.Lay
set_option linter.unusedVariables false
set_option linter.unusedSimpArgs false
namespace Go.Proofs.YtadliapkjijahaaGreatDoor
open Ab

attribute [local irreducible] addSR subSR mulR widR inR meeR aroR okS qaddR qsubR qmulR lessB hulR implRS stxt

abbrev lawSp : Sp := .rf SS (fun x (l : List Int × List Int) E => Bytes8 x.1 l.1 E ∧ Bytes8 x.2.1 l.2 E) (fun _ _ => .bool true)
set_option maxHeartbeats 40000000 in
set_option maxRecDepth 100000 in
theorem law_ok : Sp.ok Tryz.prog 3 lawSp := by
  refine Sp.rf_ok (T := ⟨[(6, bigSp), (7, p6spanSp), (9, stTSp), (8, rdTSp), (10, addSTSp), (11, subSTSp), (12, mulSTSp), (13, widTSp), (14, hulTSp), (15, spanTSp), (16, saddTSp), (17, ssubTSp), (18, smulTSp), (19, inTSp), (20, meetTSp), (21, meetTSp), (22, lessTSp), (23, p6pickSp), (24, aroTSp)], []⟩) follows eqokN ⟨enters Tryz.func6 rfl rfl, big_ok, enters Tryz.func7 rfl rfl, p6span_ok, enters Tryz.func9 rfl rfl, stT_ok, enters Tryz.func8 rfl rfl, rdT_ok, enters Tryz.func10 rfl rfl, addST_ok, enters Tryz.func11 rfl rfl, subST_ok, enters Tryz.func12 rfl rfl, mulST_ok, enters Tryz.func13 rfl rfl, widT_ok, enters Tryz.func14 rfl rfl, hulT_ok, enters Tryz.func15 rfl rfl, spanT_ok, enters Tryz.func16 rfl rfl, saddT_ok, enters Tryz.func17 rfl rfl, ssubT_ok, enters Tryz.func18 rfl rfl, smulT_ok, enters Tryz.func19 rfl rfl, inT_ok, enters Tryz.func20 rfl rfl, meetT_ok, enters Tryz.func21 rfl rfl, smeetT_ok, enters Tryz.func22 rfl rfl, lessT_ok, enters Tryz.func23 rfl rfl, p6pick_ok, enters Tryz.func24 rfl rfl, aroT_ok, trivial⟩ [] Tryz.func3 rfl (by kernel_rfl) _ _ _ fun x l E hp => ?_
  obtain ⟨⟨sa, n, c⟩, ⟨sa2, n2, c2⟩, u⟩ := x
  obtain ⟨bs, bs2⟩ := l
  obtain ⟨hb1, hb2⟩ := hp
  dsimp only at hb1 hb2
  (repeat' ((conv => whnf); (first | with_reducible apply And.intro | (with_reducible intro hh; first | (with_reducible have hx := NewRow.self hh; clear hx) | (with_reducible have hrow := Made.row hh; have hle := Made.le hh; have hmade := hh; clear hh) | (with_reducible have hrow := Fresh.rowS hh; have hle := Fresh.leS hh; have hfr := hh; clear hh) | (with_reducible have hx := Ext.self hh; clear hx) | (with_reducible have hx := SlV.self hh; clear hx) | (with_reducible have hx := Value.self hh; clear hx) | with_reducible cases hh | skip) | (with_reducible apply AllEq.mk; intro yy hq) | with_reducible apply trivial | with_reducible apply Exists.intro () | (with_reducible apply ex_side; (first | with_reducible assumption | with_reducible apply fracs1 | with_reducible apply fracs2 | with_reducible apply fracs3 | with_reducible apply spans1 | with_reducible apply spans2 | (with_reducible apply NewRow.keep; with_reducible assumption) | (with_reducible apply RowAt.keep; with_reducible assumption) | assumption | (focus ((repeat (first | with_reducible assumption | (with_reducible apply RowAt.le; rotate_left; with_reducible assumption) | (with_reducible apply RowB.le; rotate_left; with_reducible assumption))); done)))) | (with_reducible apply ex_side (a := (_, _)); (focus (with_reducible apply And.intro <;> (focus ((repeat (first | with_reducible assumption | (with_reducible apply RowAt.le; rotate_left; with_reducible assumption) | (with_reducible apply RowB.le; rotate_left; with_reducible assumption))); done))))))); (all_goals (conv => whnf)))
  (all_goals (try dsimp only [Q.eta, Sn.eta, SlV.eta] at *)); (all_goals (first | exact Side.mk trivial | with_reducible exact Side.mk rfl | exact Side.mk (fun _ _ h => h) | exact Side.mk (Made.le (by assumption)) | refine Side.mk ?_ | refine Don.mk ?_ | skip))
  · rfl
  rotate_left
  · rfl
  rename_i slo shi E1
  have hq := hh.out
  have k1 := hq.1
  have hS := hq.2
  clear hh hq
  have hB : Bytes8 ⟨sa2, n2, c2⟩ bs2 E1 := ⟨RowAt.le hb2.1 k1.le, hb2.2⟩
  refine ⟨bs2, Side.mk hB, ?_⟩
  with_reducible intro y E2 h2
  have hq2 := h2.out
  have k2 := hq2.1
  have hT := hq2.2
  clear h2 hq2
  obtain ⟨s1, s2⟩ := slo
  obtain ⟨s3, s4⟩ := shi
  obtain ⟨⟨t1, t2⟩, ⟨t3, t4⟩⟩ := y
  obtain ⟨⟨⟨m1, m2⟩, ⟨m3, m4⟩⟩, ⟨⟨l1, l2⟩, ⟨l3, l4⟩⟩, ⟨⟨i1, i2⟩, ⟨i3, i4⟩⟩, ⟨⟨h1, h2⟩, ⟨h3, h4⟩⟩, ⟨w1, w2⟩, hL⟩ := spans_law hS hT
  have a2 := hL.a2
  have a3 := hL.a3
  have a4 := hL.a4
  have a5 := hL.a5
  have a7 := hL.a7
  have w0 : ¬ w1 < 0 := hL.w0
  obtain ⟨txt, htx⟩ : ∃ txt, txt = stxt ⟨⟨s1, s2⟩, ⟨s3, s4⟩⟩ := ⟨_, rfl⟩
  have hrd : (strB txt).size ≤ 1048576 ∧ ((⟨⟨s1, s2⟩, ⟨s3, s4⟩⟩ : Sn), (0 : Int)) = implRS (bl (strB txt)) := by
    refine ⟨?_, ?_⟩
    · have h1 := txtQ_len hS.lo.ok
      have h2 := txtQ_len hS.hi.ok
      rw [strB_size, htx, stxt_yes hS.okS, List.length_append, List.length_cons, List.length_cons]
      omega
    · rw [bl_strB, htx]
      exact hL.a1
  (repeat' ((conv => whnf); (first | with_reducible apply And.intro | (with_reducible intro hh; first | (exfalso; have hbb : (_ : Bool) = _ := hh; revert hh; clear hbb; simp [w0]; done) | (with_reducible have hx := NewRow.self hh; clear hx) | (with_reducible have hrow := Made.row hh; have hle := Made.le hh; have hmade := hh; clear hh) | (with_reducible have hrow := Fresh.rowS hh; have hle := Fresh.leS hh; have hfr := hh; clear hh) | (with_reducible have hx := Ext.self hh; clear hx) | (with_reducible have hx := SlV.self hh; clear hx) | (with_reducible have hx := Value.self hh; clear hx) | with_reducible cases hh | skip) | (with_reducible apply AllEq.mk; intro yy hq) | with_reducible apply trivial | with_reducible apply Exists.intro () | (with_reducible apply ex_side; (first | with_reducible assumption | with_reducible apply fracs1 | with_reducible apply fracs2 | with_reducible apply fracs3 | with_reducible apply spans1 | with_reducible apply spans2 | (with_reducible apply NewRow.keep; with_reducible assumption) | (with_reducible apply RowAt.keep; with_reducible assumption) | assumption | (focus ((repeat (first | with_reducible assumption | (with_reducible apply RowAt.le; rotate_left; with_reducible assumption) | (with_reducible apply RowB.le; rotate_left; with_reducible assumption))); done)))) | (with_reducible apply ex_side (a := (_, _)); (focus (with_reducible apply And.intro <;> (focus ((repeat (first | with_reducible assumption | (with_reducible apply RowAt.le; rotate_left; with_reducible assumption) | (with_reducible apply RowB.le; rotate_left; with_reducible assumption))); done))))))); (all_goals (conv => whnf)))
  (all_goals (try dsimp only [Q.eta, Sn.eta, SlV.eta] at *)); (all_goals (first | exact Side.mk trivial | with_reducible exact Side.mk rfl | exact Side.mk (fun _ _ h => h) | exact Side.mk (Made.le (by assumption)) | refine Side.mk ?_ | refine Don.mk ?_ | skip))
  revert hh
  intro r0
  refine ⟨([⟨⟨s1, s2⟩, ⟨s3, s4⟩⟩, ⟨⟨t1, t2⟩, ⟨t3, t4⟩⟩], (⟨⟨h1, h2⟩, ⟨h3, h4⟩⟩, 0)), Side.mk ⟨spans2 r0, hL.a6⟩, ?_⟩
  (repeat' ((conv => whnf); (first | with_reducible apply And.intro | (with_reducible intro hh; first | (exfalso; have hbb : (_ : Bool) = _ := hh; revert hh; clear hbb; simp [w0]; done) | (with_reducible have hx := NewRow.self hh; clear hx) | (with_reducible have hrow := Made.row hh; have hle := Made.le hh; have hmade := hh; clear hh) | (with_reducible have hrow := Fresh.rowS hh; have hle := Fresh.leS hh; have hfr := hh; clear hh) | (with_reducible have hx := Ext.self hh; clear hx) | (with_reducible have hx := SlV.self hh; clear hx) | (with_reducible have hx := Value.self hh; clear hx) | with_reducible cases hh | skip) | (with_reducible apply AllEq.mk; intro yy hq) | with_reducible apply trivial | with_reducible apply Exists.intro () | (with_reducible apply ex_side; (first | with_reducible assumption | with_reducible apply fracs1 | with_reducible apply fracs2 | with_reducible apply fracs3 | with_reducible apply spans1 | with_reducible apply spans2 | (with_reducible apply NewRow.keep; with_reducible assumption) | (with_reducible apply RowAt.keep; with_reducible assumption) | assumption | (focus ((repeat (first | with_reducible assumption | (with_reducible apply RowAt.le; rotate_left; with_reducible assumption) | (with_reducible apply RowB.le; rotate_left; with_reducible assumption))); done)))) | (with_reducible apply ex_side (a := (_, _)); (focus (with_reducible apply And.intro <;> (focus ((repeat (first | with_reducible assumption | (with_reducible apply RowAt.le; rotate_left; with_reducible assumption) | (with_reducible apply RowB.le; rotate_left; with_reducible assumption))); done))))))); (all_goals (conv => whnf)))
  (all_goals (try dsimp only [Q.eta, Sn.eta, SlV.eta] at *)); (all_goals (first | exact Side.mk trivial | with_reducible exact Side.mk rfl | exact Side.mk (fun _ _ h => h) | exact Side.mk (Made.le (by assumption)) | refine Side.mk ?_ | refine Don.mk ?_ | skip))
  have hB2 : Bytes8 ⟨sa2, n2, c2⟩ bs2 r0.to := ⟨RowAt.le hB.1 (Ext.le_trans k2.le r0.le), hB.2⟩
  clear hrd htx a2 a3 a4 a5 a7 w0 hb1 hb2 hB k1 k2
  generalize r0.to = E3 at hB2 ⊢
  have q0 := hL.r0
  have q1 := hL.r1
  have q2 := hL.r2
  have q3 := hL.r3
  clear hL
  refine ⟨fun m s => ∃ (k : Nat) (i : Int) (wg : Nat → AV) (ww : Nat → Value), m = 4 - k ∧ k ≤ 4 ∧ i = (k : Int) ∧ s = ⟨[.v (ww 0), .v (.slice sa2 n2 c2), .v (ww 1), .v (ww 2), .v (ww 3), .p 0 0, .p 1 0, wg 0, .v (ww 4), .p 3 0, .v (ww 5), .p 4 0, .v (ww 6), .p 5 0, .v (ww 7), wg 1, .v (ww 8), .p 7 0, .v (ww 9), .p 8 0, .v (.int .i64 i), wg 2, wg 3, wg 4, wg 5, wg 6, wg 7, wg 8, wg 9, wg 10, wg 11, wg 12, wg 13, wg 14, wg 15, wg 16, wg 17, wg 18, wg 19, .v (ww 10), .v (ww 11), .v (ww 12), .v (ww 13), .v (ww 14), .v (ww 15), .v (ww 16), .v (ww 17), .v (ww 18), .v (ww 19), .v (ww 20), .v (ww 21), .v (ww 22), .v (ww 23), .v (ww 24), .v (ww 25), .v (ww 26), .v (ww 27), .v (ww 28), .v (ww 29), .v (ww 30), .v (ww 31), .v (ww 32), .v (ww 33), .v (ww 34), .v (ww 35), .v (ww 36), .v (ww 37), .v (ww 38), .v (ww 39), .v (ww 40), .v (ww 41), .v (ww 42), .v (ww 43), .v (ww 44), .v (ww 45), .v (ww 46), .v (ww 47), .v (ww 48), .v (ww 49), .v (ww 50), .v (ww 51), .v (ww 52), .v (ww 53), .v (ww 54), .v (ww 55), .v (ww 56), .v (ww 57), .v (ww 58), .v (ww 59), .v (ww 60), .v (ww 61), .v (ww 62), .v (ww 63), .v (ww 64), .v (ww 65), .v (ww 66), .v (ww 67), .v (ww 68), .v (ww 69), .v (ww 70), .v (ww 71), .v (ww 72), .v (ww 73), .v (ww 74), .v (ww 75), .v (ww 76), .v (ww 77), .v (ww 78), .v (ww 79), .v (ww 80), .v (ww 81), .v (ww 82), .v (ww 83), .v (ww 84), .v (ww 85), .v (ww 86), .v (ww 87), .v (ww 88), .v (ww 89), .v (ww 90), .v (ww 91), .v (ww 92), .v (ww 93), .v (ww 94), .v (ww 95), wg 20, .v (ww 96), .v (ww 97), .v (ww 98), .v (ww 99), .v (ww 100), .v (ww 101), .v (ww 102), wg 21, .v (ww 103), wg 22, .v (ww 104), .v (ww 105), wg 23, .v (ww 106), wg 24, .v (ww 107), .v (ww 108), .v (ww 109), wg 25, wg 26, wg 27, wg 28, wg 29, wg 30, wg 31, wg 32, wg 33, wg 34, wg 35, wg 36, wg 37, wg 38, wg 39, wg 40, wg 41, wg 42, wg 43, wg 44, wg 45, wg 46, wg 47, wg 48, wg 49, wg 50, wg 51, wg 52, wg 53, wg 54, wg 55, wg 56, wg 57, wg 58, wg 59, wg 60, wg 61, wg 62, wg 63, wg 64, wg 65, wg 66, wg 67, wg 68, wg 69, wg 70, wg 71, wg 72, wg 73, wg 74, wg 75, wg 76, wg 77, wg 78, wg 79, wg 80, wg 81, wg 82, wg 83, wg 84, wg 85, wg 86, wg 87, wg 88, wg 89, wg 90, wg 91, wg 92, wg 93, wg 94, wg 95, wg 96, wg 97, wg 98, wg 99, wg 100, wg 101, wg 102, wg 103, wg 104, wg 105, wg 106, wg 107, wg 108, wg 109, wg 110, wg 111, wg 112, wg 113, wg 114, wg 115, wg 116, wg 117, wg 118, wg 119, wg 120, wg 121, wg 122, wg 123, wg 124, wg 125, wg 126, wg 127, wg 128, wg 129, wg 130, wg 131, wg 132, wg 133, wg 134, wg 135, wg 136, .v (ww 110), .v (ww 111), .v (ww 112), .v (ww 113), .v (ww 114), .v (ww 115), .v (ww 116), .v (ww 117), .v (ww 118), .v (ww 119), .v (ww 120), .v (ww 121), .v (ww 122), .v (ww 123), .v (ww 124), .v (ww 125), .v (ww 126), .v (ww 127), .v (ww 128), .v (ww 129), .v (ww 130), .v (ww 131), .v (ww 132), .v (ww 133), .v (ww 134), .v (ww 135), .v (ww 136), .v (ww 137), .v (ww 138), .v (ww 139), .v (ww 140), .v (ww 141), .v (ww 142), .v (ww 143), .v (ww 144), .v (ww 145), .v (ww 146), .v (ww 147), .v (ww 148), .v (ww 149), .v (ww 150), .v (ww 151), .v (ww 152), .v (ww 153), .v (ww 154), .v (ww 155), .v (ww 156), .v (ww 157), .v (ww 158), .v (ww 159), .v (ww 160), .v (ww 161), .v (ww 162), .v (ww 163), .v (ww 164), .v (ww 165), .v (ww 166), .v (ww 167), .v (ww 168), .v (ww 169), .v (ww 170), .v (ww 171), .v (ww 172), .v (ww 173), .v (ww 174), .v (ww 175), .v (ww 176), .v (ww 177), .v (ww 178), .v (ww 179), .v (ww 180), .v (ww 181), .v (ww 182), .v (ww 183), .v (ww 184), .v (ww 185), .v (ww 186), .v (ww 187), .v (ww 188), .v (ww 189), .v (ww 190), .v (ww 191), .v (ww 192), .v (ww 193), .v (ww 194), .v (ww 195), .v (ww 196), .v (ww 197), .v (ww 198), .v (ww 199), .v (ww 200), .v (ww 201), .v (ww 202), .v (ww 203), .v (ww 204), .v (ww 205), .v (ww 206), .v (ww 207), .v (ww 208), .v (ww 209), .v (ww 210), .v (ww 211), .v (ww 212), .v (ww 213), .v (ww 214), .v (ww 215), .v (ww 216)], [([.int .i64 s1, .int .i64 s2, .int .i64 s3, .int .i64 s4], 27), ([.int .i64 t1, .int .i64 t2, .int .i64 t3, .int .i64 t4], 27), ([.int .i64 s1, .int .i64 s2, .int .i64 s3, .int .i64 s4], 27), ([.int .i64 m1, .int .i64 m2, .int .i64 m3, .int .i64 m4], 27), ([.int .i64 l1, .int .i64 l2, .int .i64 l3, .int .i64 l4], 27), ([.int .i64 i1, .int .i64 i2, .int .i64 i3, .int .i64 i4], 27), ([.int .i64 w1, .int .i64 w2], 25), ([.int .i64 h1, .int .i64 h2, .int .i64 h3, .int .i64 h4], 27), ([.int .i64 s1, .int .i64 s2, .int .i64 s3, .int .i64 s4, .int .i64 t1, .int .i64 t2, .int .i64 t3, .int .i64 t4], 39)], E3⟩, ⟨4, 0, _, nthA [_, _, _, _, _, _, _, _, _, _, _, _, _, _, _, _, _, _, _, _, _, _, _, _, _, _, _, _, _, _, _, _, _, _, _, _, _, _, _, _, _, _, _, _, _, _, _, _, _, _, _, _, _, _, _, _, _, _, _, _, _, _, _, _, _, _, _, _, _, _, _, _, _, _, _, _, _, _, _, _, _, _, _, _, _, _, _, _, _, _, _, _, _, _, _, _, _, _, _, _, _, _, _, _, _, _, _, _, _, _, _, _, _, _, _, _, _, _, _, _, _, _, _, _, _, _, _, _, _, _, _, _, _, _, _, _, _], nthV [_, _, _, _, _, _, _, _, _, _, _, _, _, _, _, _, _, _, _, _, _, _, _, _, _, _, _, _, _, _, _, _, _, _, _, _, _, _, _, _, _, _, _, _, _, _, _, _, _, _, _, _, _, _, _, _, _, _, _, _, _, _, _, _, _, _, _, _, _, _, _, _, _, _, _, _, _, _, _, _, _, _, _, _, _, _, _, _, _, _, _, _, _, _, _, _, _, _, _, _, _, _, _, _, _, _, _, _, _, _, _, _, _, _, _, _, _, _, _, _, _, _, _, _, _, _, _, _, _, _, _, _, _, _, _, _, _, _, _, _, _, _, _, _, _, _, _, _, _, _, _, _, _, _, _, _, _, _, _, _, _, _, _, _, _, _, _, _, _, _, _, _, _, _, _, _, _, _, _, _, _, _, _, _, _, _, _, _, _, _, _, _, _, _, _, _, _, _, _, _, _, _, _, _, _, _, _, _, _, _, _, _, _, _, _, _, _], rfl, Nat.zero_le _, rfl, rfl⟩, ?_⟩
  rintro m s ⟨k, i, wg, ww, rfl, hk, rfl, rfl⟩
  have hk5 : k = 0 ∨ k = 1 ∨ k = 2 ∨ k = 3 ∨ k = 4 := by omega
  rcases hk5 with rfl | rfl | rfl | rfl | rfl
  · obtain ⟨⟨⟨x1, x2⟩, b1, b2⟩, ⟨⟨y1, y2⟩, b3, b4⟩, ⟨⟨z1, z2⟩, b5, b6⟩, b7, b8⟩ := q0
    clear q1 q2 q3
    (repeat' ((conv => whnf); (first | with_reducible apply And.intro | (with_reducible intro hh; first | (exfalso; have hbb : (_ : Bool) = _ := hh; revert hh; clear hbb; simp [Nat.lt_irrefl]; done) | (with_reducible have hx := NewRow.self hh; clear hx) | (with_reducible have hrow := Made.row hh; have hle := Made.le hh; have hmade := hh; clear hh) | (with_reducible have hrow := Fresh.rowS hh; have hle := Fresh.leS hh; have hfr := hh; clear hh) | (with_reducible have hx := Ext.self hh; clear hx) | (with_reducible have hx := SlV.self hh; clear hx) | (with_reducible have hx := Value.self hh; clear hx) | with_reducible cases hh | skip) | (with_reducible apply AllEq.mk; intro yy hq) | with_reducible apply trivial | with_reducible apply Exists.intro () | (with_reducible apply ex_side; (first | with_reducible assumption | with_reducible apply fracs1 | with_reducible apply fracs2 | with_reducible apply fracs3 | with_reducible apply spans1 | with_reducible apply spans2 | (with_reducible apply NewRow.keep; with_reducible assumption) | (with_reducible apply RowAt.keep; with_reducible assumption) | assumption | (focus ((repeat (first | with_reducible assumption | (with_reducible apply RowAt.le; rotate_left; with_reducible assumption) | (with_reducible apply RowB.le; rotate_left; with_reducible assumption))); done)))) | (with_reducible apply ex_side (a := (_, _)); (focus (with_reducible apply And.intro <;> (focus ((repeat (first | with_reducible assumption | (with_reducible apply RowAt.le; rotate_left; with_reducible assumption) | (with_reducible apply RowB.le; rotate_left; with_reducible assumption))); done))))))); (all_goals (conv => whnf)))
    (all_goals (try dsimp only [Q.eta, Sn.eta, SlV.eta] at *)); (all_goals (first | exact Side.mk trivial | with_reducible exact Side.mk rfl | exact Side.mk (fun _ _ h => h) | exact Side.mk (Made.le (by assumption)) | refine Side.mk ?_ | refine Don.mk ?_ | skip))
    all_goals first
      | decide
      | exact ⟨3, by decide, 1, _, nthA [_, _, _, _, _, _, _, _, _, _, _, _, _, _, _, _, _, _, _, _, _, _, _, _, _, _, _, _, _, _, _, _, _, _, _, _, _, _, _, _, _, _, _, _, _, _, _, _, _, _, _, _, _, _, _, _, _, _, _, _, _, _, _, _, _, _, _, _, _, _, _, _, _, _, _, _, _, _, _, _, _, _, _, _, _, _, _, _, _, _, _, _, _, _, _, _, _, _, _, _, _, _, _, _, _, _, _, _, _, _, _, _, _, _, _, _, _, _, _, _, _, _, _, _, _, _, _, _, _, _, _, _, _, _, _, _, _], nthV [_, _, _, _, _, _, _, _, _, _, _, _, _, _, _, _, _, _, _, _, _, _, _, _, _, _, _, _, _, _, _, _, _, _, _, _, _, _, _, _, _, _, _, _, _, _, _, _, _, _, _, _, _, _, _, _, _, _, _, _, _, _, _, _, _, _, _, _, _, _, _, _, _, _, _, _, _, _, _, _, _, _, _, _, _, _, _, _, _, _, _, _, _, _, _, _, _, _, _, _, _, _, _, _, _, _, _, _, _, _, _, _, _, _, _, _, _, _, _, _, _, _, _, _, _, _, _, _, _, _, _, _, _, _, _, _, _, _, _, _, _, _, _, _, _, _, _, _, _, _, _, _, _, _, _, _, _, _, _, _, _, _, _, _, _, _, _, _, _, _, _, _, _, _, _, _, _, _, _, _, _, _, _, _, _, _, _, _, _, _, _, _, _, _, _, _, _, _, _, _, _, _, _, _, _, _, _, _, _, _, _, _, _, _, _, _, _], rfl, by decide, rfl, rfl⟩
  · obtain ⟨⟨⟨x1, x2⟩, b1, b2⟩, ⟨⟨y1, y2⟩, b3, b4⟩, ⟨⟨z1, z2⟩, b5, b6⟩, b7, b8⟩ := q1
    clear q0 q2 q3
    (repeat' ((conv => whnf); (first | with_reducible apply And.intro | (with_reducible intro hh; first | (exfalso; have hbb : (_ : Bool) = _ := hh; revert hh; clear hbb; simp [Nat.lt_irrefl]; done) | (with_reducible have hx := NewRow.self hh; clear hx) | (with_reducible have hrow := Made.row hh; have hle := Made.le hh; have hmade := hh; clear hh) | (with_reducible have hrow := Fresh.rowS hh; have hle := Fresh.leS hh; have hfr := hh; clear hh) | (with_reducible have hx := Ext.self hh; clear hx) | (with_reducible have hx := SlV.self hh; clear hx) | (with_reducible have hx := Value.self hh; clear hx) | with_reducible cases hh | skip) | (with_reducible apply AllEq.mk; intro yy hq) | with_reducible apply trivial | with_reducible apply Exists.intro () | (with_reducible apply ex_side; (first | with_reducible assumption | with_reducible apply fracs1 | with_reducible apply fracs2 | with_reducible apply fracs3 | with_reducible apply spans1 | with_reducible apply spans2 | (with_reducible apply NewRow.keep; with_reducible assumption) | (with_reducible apply RowAt.keep; with_reducible assumption) | assumption | (focus ((repeat (first | with_reducible assumption | (with_reducible apply RowAt.le; rotate_left; with_reducible assumption) | (with_reducible apply RowB.le; rotate_left; with_reducible assumption))); done)))) | (with_reducible apply ex_side (a := (_, _)); (focus (with_reducible apply And.intro <;> (focus ((repeat (first | with_reducible assumption | (with_reducible apply RowAt.le; rotate_left; with_reducible assumption) | (with_reducible apply RowB.le; rotate_left; with_reducible assumption))); done))))))); (all_goals (conv => whnf)))
    (all_goals (try dsimp only [Q.eta, Sn.eta, SlV.eta] at *)); (all_goals (first | exact Side.mk trivial | with_reducible exact Side.mk rfl | exact Side.mk (fun _ _ h => h) | exact Side.mk (Made.le (by assumption)) | refine Side.mk ?_ | refine Don.mk ?_ | skip))
    all_goals first
      | decide
      | exact ⟨2, by decide, 2, _, nthA [_, _, _, _, _, _, _, _, _, _, _, _, _, _, _, _, _, _, _, _, _, _, _, _, _, _, _, _, _, _, _, _, _, _, _, _, _, _, _, _, _, _, _, _, _, _, _, _, _, _, _, _, _, _, _, _, _, _, _, _, _, _, _, _, _, _, _, _, _, _, _, _, _, _, _, _, _, _, _, _, _, _, _, _, _, _, _, _, _, _, _, _, _, _, _, _, _, _, _, _, _, _, _, _, _, _, _, _, _, _, _, _, _, _, _, _, _, _, _, _, _, _, _, _, _, _, _, _, _, _, _, _, _, _, _, _, _], nthV [_, _, _, _, _, _, _, _, _, _, _, _, _, _, _, _, _, _, _, _, _, _, _, _, _, _, _, _, _, _, _, _, _, _, _, _, _, _, _, _, _, _, _, _, _, _, _, _, _, _, _, _, _, _, _, _, _, _, _, _, _, _, _, _, _, _, _, _, _, _, _, _, _, _, _, _, _, _, _, _, _, _, _, _, _, _, _, _, _, _, _, _, _, _, _, _, _, _, _, _, _, _, _, _, _, _, _, _, _, _, _, _, _, _, _, _, _, _, _, _, _, _, _, _, _, _, _, _, _, _, _, _, _, _, _, _, _, _, _, _, _, _, _, _, _, _, _, _, _, _, _, _, _, _, _, _, _, _, _, _, _, _, _, _, _, _, _, _, _, _, _, _, _, _, _, _, _, _, _, _, _, _, _, _, _, _, _, _, _, _, _, _, _, _, _, _, _, _, _, _, _, _, _, _, _, _, _, _, _, _, _, _, _, _, _, _, _], rfl, by decide, rfl, rfl⟩
  · obtain ⟨⟨⟨x1, x2⟩, b1, b2⟩, ⟨⟨y1, y2⟩, b3, b4⟩, ⟨⟨z1, z2⟩, b5, b6⟩, b7, b8⟩ := q2
    clear q0 q1 q3
    (repeat' ((conv => whnf); (first | with_reducible apply And.intro | (with_reducible intro hh; first | (exfalso; have hbb : (_ : Bool) = _ := hh; revert hh; clear hbb; simp [Nat.lt_irrefl]; done) | (with_reducible have hx := NewRow.self hh; clear hx) | (with_reducible have hrow := Made.row hh; have hle := Made.le hh; have hmade := hh; clear hh) | (with_reducible have hrow := Fresh.rowS hh; have hle := Fresh.leS hh; have hfr := hh; clear hh) | (with_reducible have hx := Ext.self hh; clear hx) | (with_reducible have hx := SlV.self hh; clear hx) | (with_reducible have hx := Value.self hh; clear hx) | with_reducible cases hh | skip) | (with_reducible apply AllEq.mk; intro yy hq) | with_reducible apply trivial | with_reducible apply Exists.intro () | (with_reducible apply ex_side; (first | with_reducible assumption | with_reducible apply fracs1 | with_reducible apply fracs2 | with_reducible apply fracs3 | with_reducible apply spans1 | with_reducible apply spans2 | (with_reducible apply NewRow.keep; with_reducible assumption) | (with_reducible apply RowAt.keep; with_reducible assumption) | assumption | (focus ((repeat (first | with_reducible assumption | (with_reducible apply RowAt.le; rotate_left; with_reducible assumption) | (with_reducible apply RowB.le; rotate_left; with_reducible assumption))); done)))) | (with_reducible apply ex_side (a := (_, _)); (focus (with_reducible apply And.intro <;> (focus ((repeat (first | with_reducible assumption | (with_reducible apply RowAt.le; rotate_left; with_reducible assumption) | (with_reducible apply RowB.le; rotate_left; with_reducible assumption))); done))))))); (all_goals (conv => whnf)))
    (all_goals (try dsimp only [Q.eta, Sn.eta, SlV.eta] at *)); (all_goals (first | exact Side.mk trivial | with_reducible exact Side.mk rfl | exact Side.mk (fun _ _ h => h) | exact Side.mk (Made.le (by assumption)) | refine Side.mk ?_ | refine Don.mk ?_ | skip))
    all_goals first
      | decide
      | exact ⟨1, by decide, 3, _, nthA [_, _, _, _, _, _, _, _, _, _, _, _, _, _, _, _, _, _, _, _, _, _, _, _, _, _, _, _, _, _, _, _, _, _, _, _, _, _, _, _, _, _, _, _, _, _, _, _, _, _, _, _, _, _, _, _, _, _, _, _, _, _, _, _, _, _, _, _, _, _, _, _, _, _, _, _, _, _, _, _, _, _, _, _, _, _, _, _, _, _, _, _, _, _, _, _, _, _, _, _, _, _, _, _, _, _, _, _, _, _, _, _, _, _, _, _, _, _, _, _, _, _, _, _, _, _, _, _, _, _, _, _, _, _, _, _, _], nthV [_, _, _, _, _, _, _, _, _, _, _, _, _, _, _, _, _, _, _, _, _, _, _, _, _, _, _, _, _, _, _, _, _, _, _, _, _, _, _, _, _, _, _, _, _, _, _, _, _, _, _, _, _, _, _, _, _, _, _, _, _, _, _, _, _, _, _, _, _, _, _, _, _, _, _, _, _, _, _, _, _, _, _, _, _, _, _, _, _, _, _, _, _, _, _, _, _, _, _, _, _, _, _, _, _, _, _, _, _, _, _, _, _, _, _, _, _, _, _, _, _, _, _, _, _, _, _, _, _, _, _, _, _, _, _, _, _, _, _, _, _, _, _, _, _, _, _, _, _, _, _, _, _, _, _, _, _, _, _, _, _, _, _, _, _, _, _, _, _, _, _, _, _, _, _, _, _, _, _, _, _, _, _, _, _, _, _, _, _, _, _, _, _, _, _, _, _, _, _, _, _, _, _, _, _, _, _, _, _, _, _, _, _, _, _, _, _], rfl, by decide, rfl, rfl⟩
  · obtain ⟨⟨⟨x1, x2⟩, b1, b2⟩, ⟨⟨y1, y2⟩, b3, b4⟩, ⟨⟨z1, z2⟩, b5, b6⟩, b7, b8⟩ := q3
    clear q0 q1 q2
    (repeat' ((conv => whnf); (first | with_reducible apply And.intro | (with_reducible intro hh; first | (exfalso; have hbb : (_ : Bool) = _ := hh; revert hh; clear hbb; simp [Nat.lt_irrefl]; done) | (with_reducible have hx := NewRow.self hh; clear hx) | (with_reducible have hrow := Made.row hh; have hle := Made.le hh; have hmade := hh; clear hh) | (with_reducible have hrow := Fresh.rowS hh; have hle := Fresh.leS hh; have hfr := hh; clear hh) | (with_reducible have hx := Ext.self hh; clear hx) | (with_reducible have hx := SlV.self hh; clear hx) | (with_reducible have hx := Value.self hh; clear hx) | with_reducible cases hh | skip) | (with_reducible apply AllEq.mk; intro yy hq) | with_reducible apply trivial | with_reducible apply Exists.intro () | (with_reducible apply ex_side; (first | with_reducible assumption | with_reducible apply fracs1 | with_reducible apply fracs2 | with_reducible apply fracs3 | with_reducible apply spans1 | with_reducible apply spans2 | (with_reducible apply NewRow.keep; with_reducible assumption) | (with_reducible apply RowAt.keep; with_reducible assumption) | assumption | (focus ((repeat (first | with_reducible assumption | (with_reducible apply RowAt.le; rotate_left; with_reducible assumption) | (with_reducible apply RowB.le; rotate_left; with_reducible assumption))); done)))) | (with_reducible apply ex_side (a := (_, _)); (focus (with_reducible apply And.intro <;> (focus ((repeat (first | with_reducible assumption | (with_reducible apply RowAt.le; rotate_left; with_reducible assumption) | (with_reducible apply RowB.le; rotate_left; with_reducible assumption))); done))))))); (all_goals (conv => whnf)))
    (all_goals (try dsimp only [Q.eta, Sn.eta, SlV.eta] at *)); (all_goals (first | exact Side.mk trivial | with_reducible exact Side.mk rfl | exact Side.mk (fun _ _ h => h) | exact Side.mk (Made.le (by assumption)) | refine Side.mk ?_ | refine Don.mk ?_ | skip))
    all_goals first
      | decide
      | exact ⟨0, by decide, 4, _, nthA [_, _, _, _, _, _, _, _, _, _, _, _, _, _, _, _, _, _, _, _, _, _, _, _, _, _, _, _, _, _, _, _, _, _, _, _, _, _, _, _, _, _, _, _, _, _, _, _, _, _, _, _, _, _, _, _, _, _, _, _, _, _, _, _, _, _, _, _, _, _, _, _, _, _, _, _, _, _, _, _, _, _, _, _, _, _, _, _, _, _, _, _, _, _, _, _, _, _, _, _, _, _, _, _, _, _, _, _, _, _, _, _, _, _, _, _, _, _, _, _, _, _, _, _, _, _, _, _, _, _, _, _, _, _, _, _, _], nthV [_, _, _, _, _, _, _, _, _, _, _, _, _, _, _, _, _, _, _, _, _, _, _, _, _, _, _, _, _, _, _, _, _, _, _, _, _, _, _, _, _, _, _, _, _, _, _, _, _, _, _, _, _, _, _, _, _, _, _, _, _, _, _, _, _, _, _, _, _, _, _, _, _, _, _, _, _, _, _, _, _, _, _, _, _, _, _, _, _, _, _, _, _, _, _, _, _, _, _, _, _, _, _, _, _, _, _, _, _, _, _, _, _, _, _, _, _, _, _, _, _, _, _, _, _, _, _, _, _, _, _, _, _, _, _, _, _, _, _, _, _, _, _, _, _, _, _, _, _, _, _, _, _, _, _, _, _, _, _, _, _, _, _, _, _, _, _, _, _, _, _, _, _, _, _, _, _, _, _, _, _, _, _, _, _, _, _, _, _, _, _, _, _, _, _, _, _, _, _, _, _, _, _, _, _, _, _, _, _, _, _, _, _, _, _, _, _], rfl, by decide, rfl, rfl⟩
  · clear q0 q1 q2 q3
    rcases meet_law hS hT with ⟨⟨⟨e1, e2⟩, ⟨e3, e4⟩⟩, b1, b2⟩ | ⟨⟨⟨e1, e2⟩, ⟨e3, e4⟩⟩, b1, b2, b3, b4, b5⟩
    · dsimp only at b2
      generalize hg1 : lessB ⟨s3, s4⟩ ⟨t1, t2⟩ = g1 at b2
      generalize hg2 : lessB ⟨t3, t4⟩ ⟨s1, s2⟩ = g2 at b2
      have b3 := hg1.symm
      have b4 := hg2.symm
      clear hg1 hg2
      (repeat' ((conv => whnf); (first | with_reducible apply And.intro | (with_reducible intro hh; first | (exfalso; have hbb : (_ : Bool) = _ := hh; revert hh; clear hbb; simp [Nat.lt_irrefl]; done) | (with_reducible have hx := NewRow.self hh; clear hx) | (with_reducible have hrow := Made.row hh; have hle := Made.le hh; have hmade := hh; clear hh) | (with_reducible have hrow := Fresh.rowS hh; have hle := Fresh.leS hh; have hfr := hh; clear hh) | (with_reducible have hx := Ext.self hh; clear hx) | (with_reducible have hx := SlV.self hh; clear hx) | (with_reducible have hx := Value.self hh; clear hx) | with_reducible cases hh | skip) | (with_reducible apply AllEq.mk; intro yy hq) | with_reducible apply trivial | with_reducible apply Exists.intro () | (with_reducible apply ex_side; (first | with_reducible assumption | with_reducible apply fracs1 | with_reducible apply fracs2 | with_reducible apply fracs3 | with_reducible apply spans1 | with_reducible apply spans2 | (with_reducible apply NewRow.keep; with_reducible assumption) | (with_reducible apply RowAt.keep; with_reducible assumption) | assumption | (focus ((repeat (first | with_reducible assumption | (with_reducible apply RowAt.le; rotate_left; with_reducible assumption) | (with_reducible apply RowB.le; rotate_left; with_reducible assumption))); done)))) | (with_reducible apply ex_side (a := (_, _)); (focus (with_reducible apply And.intro <;> (focus ((repeat (first | with_reducible assumption | (with_reducible apply RowAt.le; rotate_left; with_reducible assumption) | (with_reducible apply RowB.le; rotate_left; with_reducible assumption))); done))))))); (all_goals (conv => whnf)))
      (all_goals (try dsimp only [Q.eta, Sn.eta, SlV.eta] at *)); (all_goals (first | exact Side.mk trivial | with_reducible exact Side.mk rfl | exact Side.mk (fun _ _ h => h) | exact Side.mk (Made.le (by assumption)) | refine Side.mk ?_ | refine Don.mk ?_ | skip))
      all_goals first
        | rfl
        | (rcases b2 with h9 | h9
           · first | (cases h9; done) | (rw [h9])
           · rw [h9])
    · dsimp only at b2 b3 b4 b5
      (repeat' ((conv => whnf); (first | with_reducible apply And.intro | (with_reducible intro hh; first | (exfalso; have hbb : (_ : Bool) = _ := hh; revert hh; clear hbb; simp [Nat.lt_irrefl]; done) | (with_reducible have hx := NewRow.self hh; clear hx) | (with_reducible have hrow := Made.row hh; have hle := Made.le hh; have hmade := hh; clear hh) | (with_reducible have hrow := Fresh.rowS hh; have hle := Fresh.leS hh; have hfr := hh; clear hh) | (with_reducible have hx := Ext.self hh; clear hx) | (with_reducible have hx := SlV.self hh; clear hx) | (with_reducible have hx := Value.self hh; clear hx) | with_reducible cases hh | skip) | (with_reducible apply AllEq.mk; intro yy hq) | with_reducible apply trivial | with_reducible apply Exists.intro () | (with_reducible apply ex_side; (first | with_reducible assumption | with_reducible apply fracs1 | with_reducible apply fracs2 | with_reducible apply fracs3 | with_reducible apply spans1 | with_reducible apply spans2 | (with_reducible apply NewRow.keep; with_reducible assumption) | (with_reducible apply RowAt.keep; with_reducible assumption) | assumption | (focus ((repeat (first | with_reducible assumption | (with_reducible apply RowAt.le; rotate_left; with_reducible assumption) | (with_reducible apply RowB.le; rotate_left; with_reducible assumption))); done)))) | (with_reducible apply ex_side (a := (_, _)); (focus (with_reducible apply And.intro <;> (focus ((repeat (first | with_reducible assumption | (with_reducible apply RowAt.le; rotate_left; with_reducible assumption) | (with_reducible apply RowB.le; rotate_left; with_reducible assumption))); done))))))); (all_goals (conv => whnf)))
      (all_goals (try dsimp only [Q.eta, Sn.eta, SlV.eta] at *)); (all_goals (first | exact Side.mk trivial | with_reducible exact Side.mk rfl | exact Side.mk (fun _ _ h => h) | exact Side.mk (Made.le (by assumption)) | refine Side.mk ?_ | refine Don.mk ?_ | skip))
      refine ⟨bs2, Side.mk ⟨hB2, (by decide : (9 : Int) ≤ 1000000000)⟩, ?_⟩
      with_reducible intro v E4 h4
      have hq4 := h4.out
      have v0 := hq4.2.1
      have v1 : v < 9 := hq4.2.2.1 (by show (1 : Int) ≤ 9; decide)
      clear h4 hq4
      obtain ⟨⟨⟨f1, f2⟩, ⟨f3, f4⟩⟩, ⟨g1, g2⟩, c1, c2', c3⟩ := around_law hS.lo v0 v1
      have hw : IntKind.i64.wrap (1 + v) = 1 + v := wrap_in (by omega) (by omega)
      rw [← hw] at c1 c3
      dsimp only at c1
      (repeat' ((conv => whnf); (first | with_reducible apply And.intro | (with_reducible intro hh; first | (exfalso; have hbb : (_ : Bool) = _ := hh; revert hh; clear hbb; simp [Nat.lt_irrefl]; done) | (with_reducible have hx := NewRow.self hh; clear hx) | (with_reducible have hrow := Made.row hh; have hle := Made.le hh; have hmade := hh; clear hh) | (with_reducible have hrow := Fresh.rowS hh; have hle := Fresh.leS hh; have hfr := hh; clear hh) | (with_reducible have hx := Ext.self hh; clear hx) | (with_reducible have hx := SlV.self hh; clear hx) | (with_reducible have hx := Value.self hh; clear hx) | with_reducible cases hh | skip) | (with_reducible apply AllEq.mk; intro yy hq) | with_reducible apply trivial | with_reducible apply Exists.intro () | (with_reducible apply ex_side; (first | with_reducible assumption | with_reducible apply fracs1 | with_reducible apply fracs2 | with_reducible apply fracs3 | with_reducible apply spans1 | with_reducible apply spans2 | (with_reducible apply NewRow.keep; with_reducible assumption) | (with_reducible apply RowAt.keep; with_reducible assumption) | assumption | (focus ((repeat (first | with_reducible assumption | (with_reducible apply RowAt.le; rotate_left; with_reducible assumption) | (with_reducible apply RowB.le; rotate_left; with_reducible assumption))); done)))) | (with_reducible apply ex_side (a := (_, _)); (focus (with_reducible apply And.intro <;> (focus ((repeat (first | with_reducible assumption | (with_reducible apply RowAt.le; rotate_left; with_reducible assumption) | (with_reducible apply RowB.le; rotate_left; with_reducible assumption))); done))))))); (all_goals (conv => whnf)))
      (all_goals (try dsimp only [Q.eta, Sn.eta, SlV.eta] at *)); (all_goals (first | exact Side.mk trivial | with_reducible exact Side.mk rfl | exact Side.mk (fun _ _ h => h) | exact Side.mk (Made.le (by assumption)) | refine Side.mk ?_ | refine Don.mk ?_ | skip))
      all_goals simp
namespace fnSpans
open Go.ChangeShapes Go.WideShapes Go.ChangeAt Go.RowKit
theorem door_met (os : Os) (args : Array Value) : laidMetH Tryz.prog Rows.fnSpansRow.laid ((World.laidAll Tryz.prog os Rows.fnSpansRow.laid).forCall (fun _ _ => 0) ⟨#[], args, []⟩).memory := by
  rw [MakeChecks.laidMetH_plain _ _ _ (by kernel_rfl)]
  exact laidMet_laidAll _ (by kernel_rfl) (by kernel_rfl)
theorem globs {W : World} (hsh : W.ShapedOpen Tryz.prog) (h : laidMetH Tryz.prog Rows.fnSpansRow.laid W) : Holds W [] ⟨fun a => W.cell? a, fun _ => none⟩ := holds_laid hsh (by
  rw [MakeChecks.laidMetH_plain _ _ _ (by kernel_rfl)] at h
  exact h)
set_option maxRecDepth 100000 in
theorem lifted (os : Os) (started : os.Started) (H : Type) (enc : TypeId × Value → H) :
    ReturnsInHanded {} Tryz.checked os 3 .any (fun w args => (Rows.fnSpansSpec.pre enc Tryz.prog Tryz.f3 [] false w args ∧ laidMetH Tryz.prog Rows.fnSpansRow.laid w) ∧ sizedMet enc Tryz.prog Tryz.f3 (OpenSpec.ofChange Rows.fnSpansSpec) false w args)
      (Rows.fnSpansSpec.post enc Tryz.prog Tryz.f3 false true false false) := by
  refine handed_both (C := Tryz.checked) (X := fun w _ => laidMetH Tryz.prog Rows.fnSpansRow.laid w) (fun _ _ _ hh h => h.of_heap hh) fact_own started (by kernel_rfl) Tryz.func3
    (ChangeSpec.witness_shaped (enc := enc) (C := Tryz.checked) (os := os) (X := fun w _ => laidMetH Tryz.prog Rows.fnSpansRow.laid w) false (World.laidAll Tryz.prog os Rows.fnSpansRow.laid) #[.slice none 0 0, .slice none 0 0] 8 (World.laidAll_os _ _ _) (World.shaped_of_ZipB (by kernel_rfl) (by kernel_rfl)) (by kernel_rfl) (by kernel_rfl) (by kernel_rfl) (door_met os _)) ?_
  intro W base args ds gs before hval0 hW hcnd hL hsh
  have hval : ∀ (j : Nat) t v, Tryz.f3.params[j]? = some t → args[j]? = some v → Value.okWide Tryz.prog W .any base t v := hval0
  have hW' := hW
  obtain ⟨p, q, hA0, hV, rfl, hfz, hnd⟩ := hW
  have hA : DataW.TrodAll enc Tryz.prog W 0 (fun _ => true) true Tryz.f3.params.toList args.toList ds p := hA0
  rw [Tryz.params3] at hA hval
  obtain ⟨rfl, rfl⟩ := trodVars_none hV
  have opens := OpensL.cons (opens_row (en := fun n => [.int .u8 n]) (W := U8) 1 1 Tryz.underlying22 (by kernel_rfl) (by kernel_rfl) (by kernel_rfl) (each_u8 Tryz.underlying5)) (OpensL.cons (opens_row (en := fun n => [.int .u8 n]) (W := U8) 1 1 Tryz.underlying22 (by kernel_rfl) (by kernel_rfl) (by kernel_rfl) (each_u8 Tryz.underlying5)) (OpensL.nil (P := Tryz.prog)))
  obtain ⟨x, hx, hw⟩ := opens (fun j t v h1 h2 => hval j t v (by simpa using h1) (by simpa using h2)) hA
  obtain ⟨l, hl⟩ := (show ∃ l : List Int × List Int, Bytes8 x.1 l.1 ⟨fun a => W.cell? a, fun _ => none⟩ ∧ Bytes8 x.2.1 l.2 ⟨fun a => W.cell? a, fun _ => none⟩ from (by obtain ⟨⟨l1, h1, k1⟩, ⟨l2, h2, k2⟩, _⟩ := hw; exact ⟨(l1, l2), ⟨h1, k1⟩, ⟨h2, k2⟩⟩))
  have hlt : ∀ y ∈ p, y.block < W.heap.size := fun y hy => hW'.lt y (by simpa using hy)
  refine (Sp.calls (law_ok) hx (l := l) (args := args) rfl hl (globs hsh hL)).mono fun e W' ⟨he, bel⟩ => ?_
  subst he
  obtain ⟨_, _, d0, ds0, _, _, _, rfl, _, _, r0⟩ := trodAll_cons hA
  obtain ⟨_, _, d1, ds1, _, _, _, rfl, _, _, r1⟩ := trodAll_cons r0
  obtain ⟨_, rfl, _⟩ := trodAll_nil r1
  exact ⟨_, rfl, _, _, _, [], _, [], hW', trodAll_mk1 (shut_bool Tryz.underlying4 _), args_stay fact_laid bel (by kernel_rfl) hA hlt, rfl, bel.frame _, fun h => by cases h⟩
theorem closed : joinedFacts Tryz.prog 3 Tryz.f3 Rows.fnSpansSpec Rows.fnSpansRow = true := by
  unfold joinedFacts
  rw [fact_laid, fact_maps, fact_heard, fact_may, fact_lift, fact_make]
  kernel_rfl
theorem over : Rows.fnSpansRow.holds Tryz.pinned (OpenSpec.ofChange Rows.fnSpansSpec) :=
  OpenClaim.holds_of_wide 3 Tryz.f3 rfl rfl rfl rfl rfl rfl rfl ⟨rfl, rfl, rfl, rfl, rfl⟩ rfl rfl rfl rfl rfl (by kernel_rfl) Tryz.func3 closed
    (of_decide_eq_true (by kernel_rfl)) (by unfold Func.isWrapper; first | (rw [if_pos (by decide +kernel)]; kernel_rfl) | (rw [if_neg (by decide +kernel)]; exact ⟨rfl, rfl⟩))
    (fun os started H enc _ => lifted os started H enc)
theorem card : Rows.FnSpansCardSaid :=
  Claim7.holds_tied_plain_at .later [] [.data, .data, .data, .sentinel, .sentinel] true Rows.fnSpansCard.stood.harness true
    over (fun _ h => by cases h) (by kernel_rfl) (fun _ h => by cases h) fnSpans_row_tie rfl ⟨rfl, rfl⟩ (by kernel_rfl) rfl
    (fun f fn hf hfn => by
      obtain rfl : f = 3 := Option.some.inj ((show Tryz.prog.funcNamed Rows.fnSpansRow.func = some 3 by kernel_rfl).symm.trans hf) |>.symm
      obtain rfl : fn = Tryz.f3 := (Option.some.inj (Tryz.func3.symm.trans hfn)).symm
      exact ⟨by kernel_rfl, fun j t ht => by
        rw [Tryz.params3] at ht
        have hm : t ∈ [22, 22] := by simpa using Array.mem_of_getElem? ht
        have hall : ([22, 22].all fun u => !Tryz.prog.wantsStandIn u) = true := by kernel_rfl
        exact (show Tryz.prog.wantsStandIn t = false by simpa using List.all_eq_true.1 hall t hm)⟩)
    (by kernel_rfl)
end fnSpans
/-- The card, under a short name, for the claim. -/
theorem fnSpans_holds : Rows.FnSpansCardSaid := fnSpans.card


end Go.Proofs.YtadliapkjijahaaGreatDoor
