/- Contracts of the library's functions that cut texts and read numbers, and of the program's own over them; condition: texts of a million bytes at most. (Built with what is known of five variables: GTV=.R) -/
import Derived.Test.YtadliapkjijahaaDoorAb
import Derived.Test.YtadliapkjijahaaDoorC1
import Derived.Test.YtadliapkjijahaaDoorC2
import Derived.Test.YtadliapkjijahaaDoorC3
import Derived.Test.YtadliapkjijahaaDoorC4
import Derived.Test.YtadliapkjijahaaDoorC10
import Derived.Test.YtadliapkjijahaaDoorC12
import Derived.Test.YtadliapkjijahaaDoorC24
import Derived.Test.YtadliapkjijahaaDoorC25
import Derived.Test.YtadliapkjijahaaDoorC30
import Derived.Test.YtadliapkjijahaaDoorCN
import Derived.Test.YtadliapkjijahaaDoorCK
import Derived.Test.YtadliapkjijahaaDoorCG
import Derived.Test.YtadliapkjijahaaDoorCF
import Derived.Test.YtadliapkjijahaaDoorCP
import Derived.Test.YtadliapkjijahaaDoorC50
import Derived.Test.YtadliapkjijahaaDoorC53
import Derived.Test.YtadliapkjijahaaDoorC54
import Derived.Test.YtadliapkjijahaaDoorC55
import Derived.Test.YtadliapkjijahaaDoorProg
import Derived.Lib.LaidTab
set_option linter.unusedVariables false
set_option linter.unusedSimpArgs false
namespace Go.Proofs.YtadliapkjijahaaDoor
open Ab

open Go.Shelf Go.RowKit Go.Lib Go.Sort
theorem Rel.below {w0 w w' : World} {β0 β : List Nat} {m : Mem} {F0 E : Ext} (h : Rel w0 β0 F0 β m E w) (b : Below w.heap.size w w') : Rel w0 β0 F0 β m E w' := by
  refine ⟨h.ge, b.os.trans h.os, b.tape.trans h.tape, ⟨b.output.trans h.output.1, trivial⟩, Nat.le_trans h.size b.size, fun k hk hn ho => ?_, h.pre, h.nodup, h.len, fun i b' c hi hc => ?_, fun a v ha => ?_, h.dom, h.le0, fun b' p hb => ?_, h.glob⟩
  · rw [b.block k (Nat.lt_of_lt_of_le hk h.size)]
    exact h.old k hk hn ho
  · rw [b.block b' (h.lt (List.mem_of_getElem? hi))]
    exact h.blk i b' c hi hc
  · obtain ⟨h1, h2⟩ := h.ext a v ha
    exact ⟨(cell_of_block (b.block _ (cell_lt h1))).trans h1, h2⟩
  · obtain ⟨g1, g2, cur, g3, g4⟩ := h.own b' p hb
    exact ⟨g1, g2, cur, (b.block b' (h.own_lt hb)).trans g3, g4⟩
theorem glob_cell {w : World} {β : List Nat} {E : Ext} (h : Holds w β E) {b : Nat} {p : Array Value → Prop} (hm : (b, p) ∈ GT) : ∃ cs, (∀ i, w.cell? ⟨b, i, none⟩ = cs[i]?) ∧ p cs := by
  obtain ⟨⟨cs, t, fz, h1, h2⟩, _⟩ := h _ hm
  refine ⟨cs, fun i => ?_, h2⟩
  unfold World.cell?
  dsimp only at h1 ⊢
  rw [h1]
  rfl
abbrev TT : ArgL (ByteArray × ByteArray × Unit) := .cons .str (.cons .str .nil)
abbrev cuttSp : Sp := .pf TT (fun x => x.1.size ≤ 1048576) (fun x => .tuple #[.string (strB (Lib.cut (bl x.1) (bl x.2.1)).1), .string (strB (Lib.cut (bl x.1) (bl x.2.1)).2.1), .bool (Lib.cut (bl x.1) (bl x.2.1)).2.2])
theorem cutt_ok : Sp.ok Tryd.prog 40 cuttSp := by
  intro bs m E K hk w β vs hR hl hv
  simp only [Sp.pf] at hk
  split at hk
  · rename_i us hus
    split at hk
    · rename_i x hx
      obtain ⟨hp, hk⟩ := hk
      have hp := hp.out
      have he := TT.ok hx
      have hb' := plains_eq hus
      subst hb'
      have hvs := vs_of hl hv
      subst hvs
      obtain ⟨s, sep, u⟩ := x
      dsimp only at hp
      have hus' : us.toArray = #[.string s, .string sep] := by rw [he]; rfl
      rw [hus']
      obtain ⟨cs, hc, mm, hm⟩ := glob_cell hR.holds (b := 0) (List.mem_cons_of_mem _ (List.mem_cons_self ..))
      have hcon := Any.strings_Cut cutF s sep mm w (by omega) ((hc 0).trans hm)
      refine Calls.mono (show Calls Tryd.prog 40 _ w _ from hcon) ?_
      rintro e w' ⟨rfl, k, rfl⟩
      exact ⟨.v _, m, E, β, _, rfl, rfl, hR.drew (w.drawn + k) (Nat.le_add_right _ _), hk⟩
    · cases hk
  · cases hk
def ifv : Option Nat → Value
  | none => .nilIface
  | some n => .iface 128 (.pointer (some ⟨n, 0, none⟩))
abbrev TII : ArgL (ByteArray × Int × Int × Unit) := .cons .str (.cons .int (.cons .int .nil))
abbrev parSp : Sp := .nf TII (fun x (_ : Unit) _ => x.1.size ≤ 1048576 ∧ x.2.1 = 10 ∧ x.2.2.1 = 64) (fun _ _ (y : Int × Option Nat) => .tuple #[.int .i64 y.1, ifv y.2]) (fun x _ y E E' => E' = E ∧ (y.2 = none → numZ (bl x.1) = y.1) ∧ (y.2 ≠ none → numZ (bl x.1) = 0))
theorem below_bytes (w : World) (e : TypeId) (s : ByteArray) : Below w.heap.size w (Lib.bytesWorld w e s) := Go.Joins.below_bytesWorld _ w e s (Nat.le_refl _)
theorem par_ok : Sp.ok Tryd.prog 67 parSp := by
  intro bs m E K hk w β vs hR hl hv
  simp only [Sp.nf] at hk
  split at hk
  · rename_i us hus
    split at hk
    · rename_i x hx
      obtain ⟨_, hp, hk⟩ := hk
      obtain ⟨hp, h10, h64⟩ := hp.out
      have he := TII.ok hx
      have hb' := plains_eq hus
      subst hb'
      have hvs := vs_of hl hv
      subst hvs
      obtain ⟨s, i, j, u⟩ := x
      dsimp only at hp h10 h64
      subst h10 h64
      have hus' : us.toArray = #[.string s, .int .i64 10, .int .i64 64] := by rw [he]; rfl
      rw [hus']
      have hn : numZ (bl s) = match Lib.parseIntB 64 s.data.toList with
        | .ok v => v
        | _ => 0 := rfl
      rcases hp64 : Lib.parseIntB 64 s.data.toList with v | _ | _
      · skip
        rw [hp64] at hn
        have hcon := Any.strconv_ParseInt_10_at64_ok parF s (by omega) v hp64 w
        refine Calls.mono (show Calls Tryd.prog 67 _ w _ from hcon) ?_
        rintro e w' ⟨rfl, hw⟩
        refine ⟨.v (.tuple #[.int .i64 v, .nilIface]), m, E, β, _, rfl, rfl, ?_, hk (v, none) E ⟨rfl, fun _ => hn, fun h => absurd rfl h⟩⟩
        rcases hw with rfl | ⟨t, rfl⟩
        · exact hR
        · exact Rel.below hR (below_bytes w _ t)
      · skip
        rw [hp64] at hn
        obtain ⟨cs, hc, ev, hev, hev2⟩ := glob_cell hR.holds (b := 2) (List.mem_cons_of_mem _ (List.mem_cons_of_mem _ (List.mem_cons_self ..)))
        have hcon := Any.strconv_ParseInt_10_at64_syntax parF s (by omega) hp64 ev w ((hc 0).trans hev) hev2
        refine Calls.mono (show Calls Tryd.prog 67 _ w _ from hcon) ?_
        rintro e w' ⟨N, rfl, _, _, hb⟩
        exact ⟨.v (.tuple #[.int .i64 0, ifv (some N)]), m, E, β, _, rfl, rfl, Rel.below hR hb, hk (0, some N) E ⟨rfl, fun h => (by cases h), fun _ => hn⟩⟩
      · skip
        rw [hp64] at hn
        obtain ⟨cs, hc, ev, hev, hev2⟩ := glob_cell hR.holds (b := 3) (List.mem_cons_of_mem _ (List.mem_cons_of_mem _ (List.mem_cons_of_mem _ (List.mem_cons_self ..))))
        have hcon := Any.strconv_ParseInt_10_at64_range parF s (by omega) hp64 ev w ((hc 0).trans hev) hev2
        refine Calls.mono (show Calls Tryd.prog 67 _ w _ from hcon) ?_
        rintro e w' ⟨N, rfl, _, _, hb⟩
        exact ⟨.v (.tuple #[.int .i64 (Lib.intSat 64 s.data.toList), ifv (some N)]), m, E, β, _, rfl, rfl, Rel.below hR hb, hk (Lib.intSat 64 s.data.toList, some N) E ⟨rfl, fun h => (by cases h), fun _ => hn⟩⟩
    · cases hk
  · cases hk
abbrev nmbSp : Sp := .pf T1 (fun x => x.1.size ≤ 1048576) (fun x => .int .i64 (numZ (bl x.1)))
set_option maxRecDepth 100000 in
theorem nmb_ok : Sp.ok Tryd.prog 41 nmbSp := Sp.pf_of_nf (δ := Unit) (by
  refine Sp.nf_ok (T := ⟨[(67, parSp)], []⟩) follows eqok0 ⟨enters Tryd.func67 rfl rfl, par_ok, trivial⟩ [] Tryd.func41 rfl (by kernel_rfl) _ _ _ _ fun x l E hp => ?_
  obtain ⟨b, u⟩ := x
  dsimp only at hp
  conv => whnf
  refine ⟨(), Side.mk ⟨hp, rfl, rfl⟩, fun y E1 hq => ?_⟩
  obtain ⟨v, o⟩ := y
  obtain ⟨hq, h1, h2⟩ := hq
  dsimp only at h1 h2
  subst hq
  cases o with
  | none =>
    have h1 := h1 rfl
    (repeat' ((conv => whnf); (first | with_reducible apply And.intro | (with_reducible intro hh; first | (with_reducible have hx := NewRow.self hh; clear hx) | (with_reducible have hrow := Made.row hh; have hle := Made.le hh; have hmade := hh; clear hh) | (with_reducible have hrow := Fresh.rowS hh; have hle := Fresh.leS hh; have hfr := hh; clear hh) | (with_reducible have hx := Ext.self hh; clear hx) | (with_reducible have hx := SlV.self hh; clear hx) | (with_reducible have hx := Value.self hh; clear hx) | with_reducible cases hh | skip) | (with_reducible apply AllEq.mk; intro yy hq) | with_reducible apply trivial | with_reducible apply Exists.intro () | (with_reducible apply ex_side; (first | with_reducible assumption | with_reducible apply fracs1 | with_reducible apply fracs2 | with_reducible apply fracs3 | with_reducible apply spans1 | with_reducible apply spans2 | (with_reducible apply NewRow.keep; with_reducible assumption) | (with_reducible apply RowAt.keep; with_reducible assumption) | assumption | (focus ((repeat (first | with_reducible assumption | (with_reducible apply RowAt.le; rotate_left; with_reducible assumption) | (with_reducible apply RowB.le; rotate_left; with_reducible assumption))); done)))) | (with_reducible apply ex_side (a := (_, _)); (focus (with_reducible apply And.intro <;> (focus ((repeat (first | with_reducible assumption | (with_reducible apply RowAt.le; rotate_left; with_reducible assumption) | (with_reducible apply RowB.le; rotate_left; with_reducible assumption))); done))))))); (all_goals (conv => whnf)))
    (all_goals (try dsimp only [Q.eta, Sn.eta, SlV.eta] at *)); (all_goals (first | exact Side.mk trivial | with_reducible exact Side.mk rfl | exact Side.mk (fun _ _ h => h) | exact Side.mk (Made.le (by assumption)) | refine Side.mk ?_ | refine Don.mk ?_ | skip))
    all_goals first | (exfalso; revert hh; decide) | exact ⟨(), by rw [h1], Keeps.refl _⟩
  | some n =>
    have h2 := h2 (by simp)
    (repeat' ((conv => whnf); (first | with_reducible apply And.intro | (with_reducible intro hh; first | (with_reducible have hx := NewRow.self hh; clear hx) | (with_reducible have hrow := Made.row hh; have hle := Made.le hh; have hmade := hh; clear hh) | (with_reducible have hrow := Fresh.rowS hh; have hle := Fresh.leS hh; have hfr := hh; clear hh) | (with_reducible have hx := Ext.self hh; clear hx) | (with_reducible have hx := SlV.self hh; clear hx) | (with_reducible have hx := Value.self hh; clear hx) | with_reducible cases hh | skip) | (with_reducible apply AllEq.mk; intro yy hq) | with_reducible apply trivial | with_reducible apply Exists.intro () | (with_reducible apply ex_side; (first | with_reducible assumption | with_reducible apply fracs1 | with_reducible apply fracs2 | with_reducible apply fracs3 | with_reducible apply spans1 | with_reducible apply spans2 | (with_reducible apply NewRow.keep; with_reducible assumption) | (with_reducible apply RowAt.keep; with_reducible assumption) | assumption | (focus ((repeat (first | with_reducible assumption | (with_reducible apply RowAt.le; rotate_left; with_reducible assumption) | (with_reducible apply RowB.le; rotate_left; with_reducible assumption))); done)))) | (with_reducible apply ex_side (a := (_, _)); (focus (with_reducible apply And.intro <;> (focus ((repeat (first | with_reducible assumption | (with_reducible apply RowAt.le; rotate_left; with_reducible assumption) | (with_reducible apply RowB.le; rotate_left; with_reducible assumption))); done))))))); (all_goals (conv => whnf)))
    (all_goals (try dsimp only [Q.eta, Sn.eta, SlV.eta] at *)); (all_goals (first | exact Side.mk trivial | with_reducible exact Side.mk rfl | exact Side.mk (fun _ _ h => h) | exact Side.mk (Made.le (by assumption)) | refine Side.mk ?_ | refine Don.mk ?_ | skip))
    all_goals first | (exfalso; revert hh; decide) | exact ⟨(), by rw [h2], Keeps.refl _⟩)
theorem cut_len (s sep : List UInt8) : (Lib.cut s sep).1.length ≤ s.length ∧ (Lib.cut s sep).2.1.length ≤ s.length := by
  unfold Lib.cut
  split
  · exact ⟨by rw [List.length_take]; omega, by rw [List.length_drop]; omega⟩
  · exact ⟨Nat.le_refl _, Nat.zero_le _⟩
theorem bl_strB' (l : List UInt8) : (strB l).data.toList = l := bl_strB l
theorem out_yes {s : List UInt8} (h : (Lib.cut s [47]).2.2 = true) : outI s = ⟨numZ (Lib.cut s [47]).1, numZ (Lib.cut s [47]).2.1⟩ := by unfold outI; rw [if_pos h]
theorem out_no {s : List UInt8} (h : (Lib.cut s [47]).2.2 = false) : outI s = ⟨numZ (Lib.cut s [47]).1, 1⟩ := by unfold outI; rw [if_neg (by rw [h]; decide)]
theorem implR_1 {s : List UInt8} (h : (s == []) = true) : implR s = (⟨0, 0⟩, 5) := if_pos (.inl (by simpa using h))
theorem implR_2 {s : List UInt8} {o : Q} (ho : outI s = o) (h : (!(ftxt o == s)) = true) : implR s = (⟨0, 0⟩, 5) := if_pos (.inr (by rw [ho]; simpa using h))
theorem implR_3 {s : List UInt8} {o : Q} (h0 : (s == []) = false) (ho : outI s = o) (h : (!(ftxt o == s)) = false) : implR s = (o, 0) := by
  unfold implR
  rw [if_neg, ho]
  rintro (h1 | h1)
  · rw [h1] at h0; cases h0
  · rw [ho] at h1
    exact h1 (by simpa using h)
theorem sp_eqv {f : FuncId} {α : Type} {A : ArgL α} {pre : α → Prop} {r r' : α → Value} (h : r' = r) (ok : Sp.ok Tryd.prog f (Sp.pf A pre r)) : Sp.ok Tryd.prog f (Sp.pf A pre r') := h ▸ ok
abbrev rdIFSp : Sp := .pf T1 (fun x => x.1.size ≤ 1048576) (fun x => RQ (implR (bl x.1)))
set_option maxHeartbeats 2000000 in
set_option maxRecDepth 100000 in
theorem irdF_ok : Sp.ok Tryd.prog 20 rdIFSp := by
  refine Sp.pf_ok (T := ⟨[(40, cuttSp), (41, nmbSp), (10, ftxtSp)], []⟩) follows eqok0 ⟨enters Tryd.func40 rfl rfl, cutt_ok, enters Tryd.func41 rfl rfl, nmb_ok, enters Tryd.func10 rfl rfl, iftxt_ok, trivial⟩ [] Tryd.func20 rfl (by kernel_rfl) _ _ _ fun x E hp => ?_
  obtain ⟨b, u⟩ := x
  dsimp only at hp
  have hsz : b.size = (bl b).length := ba_len b
  have he : (⟨#[]⟩ : ByteArray).toList = [] := by rw [ba_toList]
  have hb0 : b.toList = bl b := ba_toList b
  have hc := cut_len (bl b) [47]
  have h47 : bl (⟨#[47]⟩ : ByteArray) = [47] := rfl
  (repeat' ((conv => whnf); (first | with_reducible apply And.intro | (with_reducible intro hh; first | (with_reducible have hx := NewRow.self hh; clear hx) | (with_reducible have hrow := Made.row hh; have hle := Made.le hh; have hmade := hh; clear hh) | (with_reducible have hrow := Fresh.rowS hh; have hle := Fresh.leS hh; have hfr := hh; clear hh) | (with_reducible have hx := Ext.self hh; clear hx) | (with_reducible have hx := SlV.self hh; clear hx) | (with_reducible have hx := Value.self hh; clear hx) | with_reducible cases hh | skip) | (with_reducible apply AllEq.mk; intro yy hq) | with_reducible apply trivial | with_reducible apply Exists.intro () | (with_reducible apply ex_side; (first | with_reducible assumption | with_reducible apply fracs1 | with_reducible apply fracs2 | with_reducible apply fracs3 | with_reducible apply spans1 | with_reducible apply spans2 | (with_reducible apply NewRow.keep; with_reducible assumption) | (with_reducible apply RowAt.keep; with_reducible assumption) | assumption | (focus ((repeat (first | with_reducible assumption | (with_reducible apply RowAt.le; rotate_left; with_reducible assumption) | (with_reducible apply RowB.le; rotate_left; with_reducible assumption))); done)))) | (with_reducible apply ex_side (a := (_, _)); (focus (with_reducible apply And.intro <;> (focus ((repeat (first | with_reducible assumption | (with_reducible apply RowAt.le; rotate_left; with_reducible assumption) | (with_reducible apply RowB.le; rotate_left; with_reducible assumption))); done))))))); (all_goals (conv => whnf)))
  (all_goals (try dsimp only [Q.eta, Sn.eta, SlV.eta] at *)); (all_goals (first | exact Side.mk trivial | with_reducible exact Side.mk rfl | exact Side.mk (fun _ _ h => h) | exact Side.mk (Made.le (by assumption)) | refine Side.mk ?_ | refine Don.mk ?_ | skip))
  all_goals try exact hp
  all_goals try rw [h47] at *
  all_goals try simp only [ba_toList, h47, bl_strB'] at *
  all_goals try (rw [strB_size]; omega)
  all_goals first
    | exact congrArg (fun z => AV.v (RQ z)) (implR_1 (by assumption)).symm
    | exact congrArg (fun z => AV.v (RQ z)) (implR_2 (out_yes (by assumption)) (by assumption)).symm
    | exact congrArg (fun z => AV.v (RQ z)) (implR_2 (out_no (by assumption)) (by assumption)).symm
    | exact congrArg (fun z => AV.v (RQ z)) (implR_3 (by assumption) (out_yes (by assumption)) (by assumption)).symm
    | exact congrArg (fun z => AV.v (RQ z)) (implR_3 (by assumption) (out_no (by assumption)) (by assumption)).symm
theorem srdI_ok : Sp.ok Tryd.prog 19 rdIFSp := sp_eqv (funext fun x => by rw [read_alike]) (Sp.pf_of_nf srdF_ok)

end Go.Proofs.YtadliapkjijahaaDoor
