/- Reading scales from their texts: plain lemmas, no program in sight; no condition. -/
import Derived.Test.YtadliapkjijahaaGreatDoorAb
import Derived.Test.YtadliapkjijahaaGreatDoorC1
import Derived.Test.YtadliapkjijahaaGreatDoorC2
import Derived.Test.YtadliapkjijahaaGreatDoorC3
import Derived.Test.YtadliapkjijahaaGreatDoorC4
import Derived.Test.YtadliapkjijahaaGreatDoorC5
import Derived.Test.YtadliapkjijahaaGreatDoorCL
import Derived.Test.YtadliapkjijahaaGreatDoorC6
import Derived.Test.YtadliapkjijahaaGreatDoorC7
import Derived.Test.YtadliapkjijahaaGreatDoorC8
import Derived.Test.YtadliapkjijahaaGreatDoorC9
import Derived.Test.YtadliapkjijahaaGreatDoorCO
import Derived.Test.YtadliapkjijahaaGreatDoorC10
import Derived.Test.YtadliapkjijahaaGreatDoorC12
import Derived.Test.YtadliapkjijahaaGreatDoorC14
import Derived.Test.YtadliapkjijahaaGreatDoorC15
import Derived.Test.YtadliapkjijahaaGreatDoorC24
import Derived.Test.YtadliapkjijahaaGreatDoorC25
import Derived.Test.YtadliapkjijahaaGreatDoorC30
import Derived.Test.YtadliapkjijahaaGreatDoorCN
import Derived.Test.YtadliapkjijahaaGreatDoorCK
import Derived.Test.YtadliapkjijahaaGreatDoorCG
import Derived.Test.YtadliapkjijahaaGreatDoorCF
import Derived.Test.YtadliapkjijahaaGreatDoorCJ
import Derived.Test.YtadliapkjijahaaGreatDoorCP
import Derived.Test.YtadliapkjijahaaGreatDoorC50
import Derived.Test.YtadliapkjijahaaGreatDoorC52
import Derived.Test.YtadliapkjijahaaGreatDoorC53
import Derived.Test.YtadliapkjijahaaGreatDoorC54
import Derived.Test.YtadliapkjijahaaGreatDoorC55
import Derived.Test.YtadliapkjijahaaGreatDoorC56
import Derived.Test.YtadliapkjijahaaGreatDoorProg
import Derived.Lib.CountLaws
import Derived.Lib.SplitLaws
import Derived.Lib.Split
set_option linter.unusedVariables false
set_option linter.unusedSimpArgs false
namespace Go.Proofs.YtadliapkjijahaaGreatDoor
open Ab

open Go.Lib
def rdAll : List (List UInt8) → Option (List Q)
  | [] => some []
  | w :: r => if (readV w).2 then (rdAll r).map ((readV w).1 :: ·) else none
theorem rdAll_map : ∀ {qs : List Q}, (∀ q ∈ qs, okQ q = true) → rdAll (qs.map txtQ) = some qs
  | [], _ => rfl
  | q :: qs, h => by
    rw [List.map_cons, rdAll, readV_txt (h q (by simp)), rdAll_map (qs := qs) fun a ha => h a (List.mem_cons_of_mem _ ha)]
    rfl
theorem rdAll_back : ∀ {ws : List (List UInt8)} {qs : List Q}, rdAll ws = some qs → ws = qs.map txtQ ∧ ∀ q ∈ qs, okQ q = true
  | [], qs, h => by
    rw [rdAll] at h
    cases h
    exact ⟨rfl, fun q hq => by cases hq⟩
  | w :: r, qs, h => by
    rw [rdAll] at h
    split at h
    · rename_i hw
      obtain ⟨h1, h2⟩ := readV_ok hw
      cases hr : rdAll r with
      | none => rw [hr] at h; cases h
      | some t =>
        rw [hr] at h
        cases h
        obtain ⟨h3, h4⟩ := rdAll_back hr
        refine ⟨by rw [List.map_cons, h1, ← h3], fun q hq => ?_⟩
        rcases List.mem_cons.1 hq with hq | hq
        · rw [hq]; exact h2
        · exact h4 q hq
    · cases h
theorem txt_noblank (a : Q) : (32 : UInt8) ∉ txtQ a := by
  unfold txtQ
  split
  · exact itoa_not (by decide) (by decide)
  · intro h
    rcases List.mem_append.1 h with h | h
    · exact itoa_not (by decide) (by decide) h
    · rcases List.mem_cons.1 h with h | h
      · exact absurd h (by decide)
      · exact itoa_not (by decide) (by decide) h
theorem tail_cons (x : List UInt8) (r : List (List UInt8)) : Lib.joinTail [32] (x :: r) = 32 :: (x ++ Lib.joinTail [32] r) := by simp [Lib.joinTail]
theorem splS_line : ∀ (es : List Q) (u : Q), splS 32 (lineL u es) = (u :: es).map txtQ
  | [], u => by
    rw [lineL, List.map_nil]
    show splS 32 (txtQ u ++ []) = _
    rw [List.append_nil, splS_none (txt_noblank u)]
    rfl
  | e :: es, u => by
    have ih := splS_line es e
    rw [lineL] at ih
    rw [lineL, List.map_cons, tail_cons, splS_some (txt_noblank u), ih]
    rfl
theorem line_of_spl : ∀ (es : List Q) (u : Q) (l : List UInt8), splS 32 l = (u :: es).map txtQ → l = lineL u es
  | [], u, l, h => by
    rw [(splS_back 32 l _ _ h).1 rfl, lineL]
    show _ = txtQ u ++ []
    rw [List.append_nil]
  | e :: es, u, l, h => by
    obtain ⟨s', h1, h2⟩ := (splS_back 32 l _ _ h).2 (by simp)
    have ih := line_of_spl es e s' h1
    rw [h2, ih, lineL, lineL, List.map_cons, tail_cons]
def readC (l : List UInt8) : Option (Q × List Q) := match rdAll (splS 32 l) with
  | some (u :: es) => if okC u es then some (u, es) else none
  | _ => none
def implC (l : List UInt8) : Option (Q × List Q) := if 61 < (splS 32 l).length then none else match (splS 32 l).map (fun w => (implR w).1) with
  | u :: es => if okC u es = true ∧ ctxt u es = l then some (u, es) else none
  | [] => none
theorem implR_q {a : Q} (h : okQ a = true) : (implR (txtQ a)).1 = a := by rw [read_alike, specR, readV_txt h]; rfl
theorem map_implR {qs : List Q} (h : ∀ q ∈ qs, okQ q = true) : (qs.map txtQ).map (fun w => (implR w).1) = qs := by
  rw [List.map_map]
  conv => rhs; rw [← List.map_id qs]
  exact List.map_congr_left fun a ha => implR_q (h a ha)
theorem ctxt_line {u : Q} {l : List Q} (h : okC u l = true) : ctxt u l = lineL u l := if_pos h
theorem scale_alike (l : List UInt8) : implC l = readC l := by
  unfold readC
  cases hr : rdAll (splS 32 l) with
  | none =>
    unfold implC
    split
    · rfl
    · split
      · rename_i u es hm
        rw [if_neg]
        rintro ⟨h1, h2⟩
        rw [ctxt_line h1] at h2
        have h3 := splS_line es u
        rw [h2] at h3
        obtain ⟨k1, _, _, _, k5, _⟩ := okC_iff h1
        have h4 := rdAll_map (qs := u :: es) fun q hq => by
          rcases List.mem_cons.1 hq with hq | hq
          · rw [hq]; exact k1
          · exact allOk_mem' k5 q hq
        rw [← h3, hr] at h4
        cases h4
      · rfl
  | some qs =>
    obtain ⟨h1, h2⟩ := rdAll_back hr
    cases qs with
    | nil => exact absurd h1 (splS_ne 32 l)
    | cons u es =>
      dsimp only
      unfold implC
      rw [h1, map_implR h2]
      dsimp only
      by_cases hc : okC u es = true
      · obtain ⟨_, _, _, k4, _⟩ := okC_iff hc
        rw [if_neg (by rw [List.length_map, List.length_cons]; omega), if_pos hc, if_pos ⟨hc, by rw [ctxt_line hc, line_of_spl es u l h1]⟩]
      · rw [if_neg hc]
        split
        · rfl
        · rw [if_neg (fun h => hc h.1)]
/-! the library's splitting -/
theorem indexB_32 (b : ByteArray) : Lib.indexB b ⟨#[32]⟩ = Lib.index (bl b) [32] := rfl
theorem split_lib : ∀ (n : Nat) (b : ByteArray), (bl b).length = n → Lib.splitB ⟨#[32]⟩ 0 (Lib.countB b ⟨#[32]⟩) b = (splS 32 (bl b)).map strB := by
  intro n
  induction n using Nat.strongRecOn with
  | _ n ih =>
    intro b hn
    by_cases h : (32 : UInt8) ∈ bl b
    · obtain ⟨a, r, hl, ha⟩ := List.eq_append_cons_of_mem h
      have hi : Lib.indexB b ⟨#[32]⟩ = (a.length : Int) := by rw [indexB_32, hl]; exact index_in ha
      have h1 : 1 ≤ (⟨#[32]⟩ : ByteArray).size := Nat.le_refl _
      have hsz : b.size = (bl b).length := ba_len b
      have hx : bl (b.extract (a.length + (⟨#[32]⟩ : ByteArray).size) b.size) = r := by
        rw [bl, ba_cut]
        show ((bl b).drop (a.length + 1)).take (b.size - (a.length + 1)) = r
        rw [hl, List.drop_append, List.take_of_length_le]
        · simp
        · rw [hsz, hl]; simp; omega
      have h0 : b.extract 0 (a.length + 0) = strB a := by
        rw [ba_ext, hl]
        simp
      rw [Lib.countB_hit b _ a.length h1 hi, Nat.add_comm, Lib.splitB_hit _ 0 _ b a.length hi, h0, ih r.length (by rw [← hn, hl]; simp; omega) _ (by rw [hx]), hx, hl, splS_some ha]
      rfl
    · have hi : Lib.indexB b ⟨#[32]⟩ = -1 := by rw [indexB_32]; exact index_out h
      rw [Lib.splitB_miss _ 0 _ b hi, splS_none h]
      show [b] = [strB (bl b)]
      rfl
theorem split_len (b : ByteArray) : Lib.countB b ⟨#[32]⟩ + 1 = (splS 32 (bl b)).length := by
  have h1 := Lib.splitB_all ⟨#[32]⟩ (Nat.le_refl _) 0 _ b rfl
  rw [split_lib _ b rfl, List.length_map] at h1
  exact h1.symm

end Go.Proofs.YtadliapkjijahaaGreatDoor
