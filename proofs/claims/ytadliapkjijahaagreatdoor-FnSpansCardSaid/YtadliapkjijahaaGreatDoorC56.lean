/- Contracts of the library's functions that cut texts and read numbers, and of the program's own over them; condition: texts of a million bytes at most. (Built with what is known of five variables: GTV=.R) -/
import Derived.Test.YtadliapkjijahaaGreatDoorAb
import Derived.Test.YtadliapkjijahaaGreatDoorC1
import Derived.Test.YtadliapkjijahaaGreatDoorC2
import Derived.Test.YtadliapkjijahaaGreatDoorC3
import Derived.Test.YtadliapkjijahaaGreatDoorC4
import Derived.Test.YtadliapkjijahaaGreatDoorC10
import Derived.Test.YtadliapkjijahaaGreatDoorC12
import Derived.Test.YtadliapkjijahaaGreatDoorC24
import Derived.Test.YtadliapkjijahaaGreatDoorC25
import Derived.Test.YtadliapkjijahaaGreatDoorC30
import Derived.Test.YtadliapkjijahaaGreatDoorCN
import Derived.Test.YtadliapkjijahaaGreatDoorCK
import Derived.Test.YtadliapkjijahaaGreatDoorCG
import Derived.Test.YtadliapkjijahaaGreatDoorCF
import Derived.Test.YtadliapkjijahaaGreatDoorCP
import Derived.Test.YtadliapkjijahaaGreatDoorC50
import Derived.Test.YtadliapkjijahaaGreatDoorC53
import Derived.Test.YtadliapkjijahaaGreatDoorC54
import Derived.Test.YtadliapkjijahaaGreatDoorC55
import Derived.Test.YtadliapkjijahaaGreatDoorProg
import Derived.Lib.LaidTab
set_option linter.unusedVariables false
set_option linter.unusedSimpArgs false
namespace Go.Proofs.YtadliapkjijahaaGreatDoor
open Ab

open Go.Shelf Go.RowKit Go.Lib Go.Sort
theorem glob_cell {w : World} {β : List Nat} {E : Ext} (h : Holds w β E) {b : Nat} {p : Array Value → Prop} (hm : (b, p) ∈ GT) : ∃ cs, (∀ i, w.cell? ⟨b, i, none⟩ = cs[i]?) ∧ p cs := by
  obtain ⟨⟨cs, t, fz, h1, h2⟩, _⟩ := h _ hm
  refine ⟨cs, fun i => ?_, h2⟩
  unfold World.cell?
  dsimp only at h1 ⊢
  rw [h1]
  rfl
abbrev TT : ArgL (ByteArray × ByteArray × Unit) := .cons .str (.cons .str .nil)
abbrev cuttSp : Sp := .pf TT (fun x => x.1.size ≤ 1048576) (fun x => .tuple #[.string (strB (Lib.cut (bl x.1) (bl x.2.1)).1), .string (strB (Lib.cut (bl x.1) (bl x.2.1)).2.1), .bool (Lib.cut (bl x.1) (bl x.2.1)).2.2])
theorem cutt_ok : Sp.ok Tryz.prog 45 cuttSp := by
  intro bs m E K hk w β vs hR hl hv
  simp only [Sp.pf] at hk
  split at hk
  · rename_i us hus
    split at hk
    · rename_i x hx
      obtain ⟨hp, hk⟩ := hk
      have hp := hp.out
      have he := TT.ok hx
      have hb' := plains_eq hus
      subst hb'
      have hvs := vs_of hl hv
      subst hvs
      obtain ⟨s, sep, u⟩ := x
      dsimp only at hp
      have hus' : us.toArray = #[.string s, .string sep] := by rw [he]; rfl
      rw [hus']
      obtain ⟨cs, hc, mm, hm⟩ := glob_cell hR.holds (b := 0) (List.mem_cons_of_mem _ (List.mem_cons_self ..))
      have hcon := Any.strings_Cut cutF s sep mm w (by omega) ((hc 0).trans hm)
      refine Calls.mono (show Calls Tryz.prog 45 _ w _ from hcon) ?_
      rintro e w' ⟨rfl, k, rfl⟩
      exact ⟨.v _, m, E, β, _, rfl, rfl, hR.drew (w.drawn + k) (Nat.le_add_right _ _), hk⟩
    · cases hk
  · cases hk
def ifv : Option Nat → Value
  | none => .nilIface
  | some n => .iface ifT (.pointer (some ⟨n, 0, none⟩))
abbrev TII : ArgL (ByteArray × Int × Int × Unit) := .cons .str (.cons .int (.cons .int .nil))
abbrev parSp : Sp := .nf TII (fun x (_ : Unit) _ => x.1.size ≤ 1048576 ∧ x.2.1 = 10 ∧ x.2.2.1 = 64) (fun _ _ (y : Int × Option Nat) => .tuple #[.int .i64 y.1, ifv y.2]) (fun x _ y E E' => E' = E ∧ (y.2 = none → numZ (bl x.1) = y.1) ∧ (y.2 ≠ none → numZ (bl x.1) = 0))
theorem below_bytes (w : World) (e : TypeId) (s : ByteArray) : Below w.heap.size w (Lib.bytesWorld w e s) := Go.Joins.below_bytesWorld _ w e s (Nat.le_refl _)
theorem par_ok : Sp.ok Tryz.prog 117 parSp := by
  intro bs m E K hk w β vs hR hl hv
  simp only [Sp.nf] at hk
  split at hk
  · rename_i us hus
    split at hk
    · rename_i x hx
      obtain ⟨_, hp, hk⟩ := hk
      obtain ⟨hp, h10, h64⟩ := hp.out
      have he := TII.ok hx
      have hb' := plains_eq hus
      subst hb'
      have hvs := vs_of hl hv
      subst hvs
      obtain ⟨s, i, j, u⟩ := x
      dsimp only at hp h10 h64
      subst h10 h64
      have hus' : us.toArray = #[.string s, .int .i64 10, .int .i64 64] := by rw [he]; rfl
      rw [hus']
      have hn : numZ (bl s) = match Lib.parseIntB 64 s.data.toList with
        | .ok v => v
        | _ => 0 := rfl
      rcases hp64 : Lib.parseIntB 64 s.data.toList with v | _ | _
      · skip
        rw [hp64] at hn
        have hcon := Any.strconv_ParseInt_10_at64_ok parF s (by omega) v hp64 w
        refine Calls.mono (show Calls Tryz.prog 117 _ w _ from hcon) ?_
        rintro e w' ⟨rfl, hw⟩
        refine ⟨.v (.tuple #[.int .i64 v, .nilIface]), m, E, β, _, rfl, rfl, ?_, hk (v, none) E ⟨rfl, fun _ => hn, fun h => absurd rfl h⟩⟩
        rcases hw with rfl | ⟨t, rfl⟩
        · exact hR
        · exact Rel.below hR (below_bytes w _ t)
      · skip
        rw [hp64] at hn
        obtain ⟨cs, hc, ev, hev, hev2⟩ := glob_cell hR.holds (b := 1) (List.mem_cons_of_mem _ (List.mem_cons_of_mem _ (List.mem_cons_self ..)))
        have hcon := Any.strconv_ParseInt_10_at64_syntax parF s (by omega) hp64 ev w ((hc 0).trans hev) hev2
        refine Calls.mono (show Calls Tryz.prog 117 _ w _ from hcon) ?_
        rintro e w' ⟨N, rfl, _, _, hb⟩
        exact ⟨.v (.tuple #[.int .i64 0, ifv (some N)]), m, E, β, _, rfl, rfl, Rel.below hR hb, hk (0, some N) E ⟨rfl, fun h => (by cases h), fun _ => hn⟩⟩
      · skip
        rw [hp64] at hn
        obtain ⟨cs, hc, ev, hev, hev2⟩ := glob_cell hR.holds (b := 2) (List.mem_cons_of_mem _ (List.mem_cons_of_mem _ (List.mem_cons_of_mem _ (List.mem_cons_self ..))))
        have hcon := Any.strconv_ParseInt_10_at64_range parF s (by omega) hp64 ev w ((hc 0).trans hev) hev2
        refine Calls.mono (show Calls Tryz.prog 117 _ w _ from hcon) ?_
        rintro e w' ⟨N, rfl, _, _, hb⟩
        exact ⟨.v (.tuple #[.int .i64 (Lib.intSat 64 s.data.toList), ifv (some N)]), m, E, β, _, rfl, rfl, Rel.below hR hb, hk (Lib.intSat 64 s.data.toList, some N) E ⟨rfl, fun h => (by cases h), fun _ => hn⟩⟩
    · cases hk
  · cases hk
abbrev nmbSp : Sp := .pf T1 (fun x => x.1.size ≤ 1048576) (fun x => .int .i64 (numZ (bl x.1)))
set_option maxRecDepth 100000 in
theorem nmb_ok : Sp.ok Tryz.prog 94 nmbSp := Sp.pf_of_nf (δ := Unit) (by
  refine Sp.nf_ok (T := ⟨[(117, parSp)], []⟩) follows eqok0 ⟨enters Tryz.func117 rfl rfl, par_ok, trivial⟩ [] Tryz.func94 rfl (by kernel_rfl) _ _ _ _ fun x l E hp => ?_
  obtain ⟨b, u⟩ := x
  dsimp only at hp
  conv => whnf
  refine ⟨(), Side.mk ⟨hp, rfl, rfl⟩, fun y E1 hq => ?_⟩
  obtain ⟨v, o⟩ := y
  obtain ⟨hq, h1, h2⟩ := hq
  dsimp only at h1 h2
  subst hq
  cases o with
  | none =>
    have h1 := h1 rfl
    (repeat' ((conv => whnf); (first | with_reducible apply And.intro | (with_reducible intro hh; first | (with_reducible have hx := NewRow.self hh; clear hx) | (with_reducible have hrow := Made.row hh; have hle := Made.le hh; have hmade := hh; clear hh) | (with_reducible have hrow := Fresh.rowS hh; have hle := Fresh.leS hh; have hfr := hh; clear hh) | (with_reducible have hx := Ext.self hh; clear hx) | (with_reducible have hx := SlV.self hh; clear hx) | (with_reducible have hx := Value.self hh; clear hx) | with_reducible cases hh | skip) | (with_reducible apply AllEq.mk; intro yy hq) | with_reducible apply trivial | with_reducible apply Exists.intro () | (with_reducible apply ex_side; (first | with_reducible assumption | with_reducible apply fracs1 | with_reducible apply fracs2 | with_reducible apply fracs3 | with_reducible apply spans1 | with_reducible apply spans2 | (with_reducible apply NewRow.keep; with_reducible assumption) | (with_reducible apply RowAt.keep; with_reducible assumption) | assumption | (focus ((repeat (first | with_reducible assumption | (with_reducible apply RowAt.le; rotate_left; with_reducible assumption) | (with_reducible apply RowB.le; rotate_left; with_reducible assumption))); done)))) | (with_reducible apply ex_side (a := (_, _)); (focus (with_reducible apply And.intro <;> (focus ((repeat (first | with_reducible assumption | (with_reducible apply RowAt.le; rotate_left; with_reducible assumption) | (with_reducible apply RowB.le; rotate_left; with_reducible assumption))); done))))))); (all_goals (conv => whnf)))
    (all_goals (try dsimp only [Q.eta, Sn.eta, SlV.eta] at *)); (all_goals (first | exact Side.mk trivial | with_reducible exact Side.mk rfl | exact Side.mk (fun _ _ h => h) | exact Side.mk (Made.le (by assumption)) | refine Side.mk ?_ | refine Don.mk ?_ | skip))
    all_goals first | (exfalso; revert hh; decide) | exact ⟨(), by rw [h1], Keeps.refl _⟩
  | some n =>
    have h2 := h2 (by simp)
    (repeat' ((conv => whnf); (first | with_reducible apply And.intro | (with_reducible intro hh; first | (with_reducible have hx := NewRow.self hh; clear hx) | (with_reducible have hrow := Made.row hh; have hle := Made.le hh; have hmade := hh; clear hh) | (with_reducible have hrow := Fresh.rowS hh; have hle := Fresh.leS hh; have hfr := hh; clear hh) | (with_reducible have hx := Ext.self hh; clear hx) | (with_reducible have hx := SlV.self hh; clear hx) | (with_reducible have hx := Value.self hh; clear hx) | with_reducible cases hh | skip) | (with_reducible apply AllEq.mk; intro yy hq) | with_reducible apply trivial | with_reducible apply Exists.intro () | (with_reducible apply ex_side; (first | with_reducible assumption | with_reducible apply fracs1 | with_reducible apply fracs2 | with_reducible apply fracs3 | with_reducible apply spans1 | with_reducible apply spans2 | (with_reducible apply NewRow.keep; with_reducible assumption) | (with_reducible apply RowAt.keep; with_reducible assumption) | assumption | (focus ((repeat (first | with_reducible assumption | (with_reducible apply RowAt.le; rotate_left; with_reducible assumption) | (with_reducible apply RowB.le; rotate_left; with_reducible assumption))); done)))) | (with_reducible apply ex_side (a := (_, _)); (focus (with_reducible apply And.intro <;> (focus ((repeat (first | with_reducible assumption | (with_reducible apply RowAt.le; rotate_left; with_reducible assumption) | (with_reducible apply RowB.le; rotate_left; with_reducible assumption))); done))))))); (all_goals (conv => whnf)))
    (all_goals (try dsimp only [Q.eta, Sn.eta, SlV.eta] at *)); (all_goals (first | exact Side.mk trivial | with_reducible exact Side.mk rfl | exact Side.mk (fun _ _ h => h) | exact Side.mk (Made.le (by assumption)) | refine Side.mk ?_ | refine Don.mk ?_ | skip))
    all_goals first | (exfalso; revert hh; decide) | exact ⟨(), by rw [h2], Keeps.refl _⟩)
theorem cut_len (s sep : List UInt8) : (Lib.cut s sep).1.length ≤ s.length ∧ (Lib.cut s sep).2.1.length ≤ s.length := by
  unfold Lib.cut
  split
  · exact ⟨by rw [List.length_take]; omega, by rw [List.length_drop]; omega⟩
  · exact ⟨Nat.le_refl _, Nat.zero_le _⟩
theorem bl_strB' (l : List UInt8) : (strB l).data.toList = l := bl_strB l
theorem out_yes {s : List UInt8} (h : (Lib.cut s [47]).2.2 = true) : outI s = ⟨numZ (Lib.cut s [47]).1, numZ (Lib.cut s [47]).2.1⟩ := by unfold outI; rw [if_pos h]
theorem outI_no {s : List UInt8} (h : (Lib.cut s [47]).2.2 = false) : outI s = ⟨numZ (Lib.cut s [47]).1, 1⟩ := by unfold outI; rw [if_neg (by rw [h]; decide)]
theorem implR_1 {s : List UInt8} (h : (s == []) = true) : implR s = (⟨0, 0⟩, 5) := if_pos (.inl (by simpa using h))
theorem implR_2 {s : List UInt8} {o : Q} (ho : outI s = o) (h : (!(ftxt o == s)) = true) : implR s = (⟨0, 0⟩, 5) := if_pos (.inr (by rw [ho]; simpa using h))
theorem implR_3 {s : List UInt8} {o : Q} (h0 : (s == []) = false) (ho : outI s = o) (h : (!(ftxt o == s)) = false) : implR s = (o, 0) := by
  unfold implR
  rw [if_neg, ho]
  rintro (h1 | h1)
  · rw [h1] at h0; cases h0
  · rw [ho] at h1
    exact h1 (by simpa using h)
theorem sp_eqv {f : FuncId} {α : Type} {A : ArgL α} {pre : α → Prop} {r r' : α → Value} (h : r' = r) (ok : Sp.ok Tryz.prog f (Sp.pf A pre r)) : Sp.ok Tryz.prog f (Sp.pf A pre r') := h ▸ ok
abbrev rdIFSp : Sp := .pf T1 (fun x => x.1.size ≤ 1048576) (fun x => RQ (implR (bl x.1)))
set_option maxHeartbeats 2000000 in
set_option maxRecDepth 100000 in
theorem irdF_ok : Sp.ok Tryz.prog 46 rdIFSp := by
  refine Sp.pf_ok (T := ⟨[(45, cuttSp), (94, nmbSp), (47, ftxtSp)], []⟩) follows eqok0 ⟨enters Tryz.func45 rfl rfl, cutt_ok, enters Tryz.func94 rfl rfl, nmb_ok, enters Tryz.func47 rfl rfl, iftxt_ok, trivial⟩ [] Tryz.func46 rfl (by kernel_rfl) _ _ _ fun x E hp => ?_
  obtain ⟨b, u⟩ := x
  dsimp only at hp
  have hsz : b.size = (bl b).length := ba_len b
  have he : (⟨#[]⟩ : ByteArray).toList = [] := by rw [ba_toList]
  have hb0 : b.toList = bl b := ba_toList b
  have hc := cut_len (bl b) [47]
  have h47 : bl (⟨#[47]⟩ : ByteArray) = [47] := rfl
  (repeat' ((conv => whnf); (first | with_reducible apply And.intro | (with_reducible intro hh; first | (with_reducible have hx := NewRow.self hh; clear hx) | (with_reducible have hrow := Made.row hh; have hle := Made.le hh; have hmade := hh; clear hh) | (with_reducible have hrow := Fresh.rowS hh; have hle := Fresh.leS hh; have hfr := hh; clear hh) | (with_reducible have hx := Ext.self hh; clear hx) | (with_reducible have hx := SlV.self hh; clear hx) | (with_reducible have hx := Value.self hh; clear hx) | with_reducible cases hh | skip) | (with_reducible apply AllEq.mk; intro yy hq) | with_reducible apply trivial | with_reducible apply Exists.intro () | (with_reducible apply ex_side; (first | with_reducible assumption | with_reducible apply fracs1 | with_reducible apply fracs2 | with_reducible apply fracs3 | with_reducible apply spans1 | with_reducible apply spans2 | (with_reducible apply NewRow.keep; with_reducible assumption) | (with_reducible apply RowAt.keep; with_reducible assumption) | assumption | (focus ((repeat (first | with_reducible assumption | (with_reducible apply RowAt.le; rotate_left; with_reducible assumption) | (with_reducible apply RowB.le; rotate_left; with_reducible assumption))); done)))) | (with_reducible apply ex_side (a := (_, _)); (focus (with_reducible apply And.intro <;> (focus ((repeat (first | with_reducible assumption | (with_reducible apply RowAt.le; rotate_left; with_reducible assumption) | (with_reducible apply RowB.le; rotate_left; with_reducible assumption))); done))))))); (all_goals (conv => whnf)))
  (all_goals (try dsimp only [Q.eta, Sn.eta, SlV.eta] at *)); (all_goals (first | exact Side.mk trivial | with_reducible exact Side.mk rfl | exact Side.mk (fun _ _ h => h) | exact Side.mk (Made.le (by assumption)) | refine Side.mk ?_ | refine Don.mk ?_ | skip))
  all_goals try exact hp
  all_goals try rw [h47] at *
  all_goals try simp only [ba_toList, h47, bl_strB'] at *
  all_goals try (rw [strB_size]; omega)
  all_goals first
    | exact congrArg (fun z => AV.v (RQ z)) (implR_1 (by assumption)).symm
    | exact congrArg (fun z => AV.v (RQ z)) (implR_2 (out_yes (by assumption)) (by assumption)).symm
    | exact congrArg (fun z => AV.v (RQ z)) (implR_2 (outI_no (by assumption)) (by assumption)).symm
    | exact congrArg (fun z => AV.v (RQ z)) (implR_3 (by assumption) (out_yes (by assumption)) (by assumption)).symm
    | exact congrArg (fun z => AV.v (RQ z)) (implR_3 (by assumption) (outI_no (by assumption)) (by assumption)).symm

end Go.Proofs.YtadliapkjijahaaGreatDoor
