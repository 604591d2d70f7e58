/- Reading numbers and fractions from their texts: plain lemmas, no program in sight; conditions: the bounds that each names. -/
import Derived.Test.YtadliapkjijahaaGreatDoorAb
import Derived.Test.YtadliapkjijahaaGreatDoorC1
import Derived.Test.YtadliapkjijahaaGreatDoorC2
import Derived.Test.YtadliapkjijahaaGreatDoorC3
import Derived.Test.YtadliapkjijahaaGreatDoorC4
import Derived.Test.YtadliapkjijahaaGreatDoorC10
import Derived.Test.YtadliapkjijahaaGreatDoorC12
import Derived.Test.YtadliapkjijahaaGreatDoorC24
import Derived.Test.YtadliapkjijahaaGreatDoorC25
import Derived.Test.YtadliapkjijahaaGreatDoorCK
import Derived.Test.YtadliapkjijahaaGreatDoorCF
import Derived.Test.YtadliapkjijahaaGreatDoorC50
import Derived.Test.YtadliapkjijahaaGreatDoorProg
import Derived.Lib.ItoaLen
import Derived.Lib.ItoaMem
import Derived.Lib.ParseIntBTie
import Derived.Lib.IndexLaws
import Derived.Lib.IndexMore
set_option linter.unusedVariables false
set_option linter.unusedSimpArgs false
namespace Go.Proofs.YtadliapkjijahaaGreatDoor
open Ab

open Go.Lib
def isD (c : UInt8) : Bool := decide (48 ≤ c.toNat) && decide (c.toNat ≤ 57)
def valL (acc : Nat) : List UInt8 → Option Nat
  | [] => some acc
  | c :: r => if isD c then valL (10 * acc + (c.toNat - 48)) r else none
theorem valL_append : ∀ (a b : List UInt8) (acc : Nat), valL acc (a ++ b) = (valL acc a).bind fun v => valL v b
  | [], b, acc => rfl
  | c :: a, b, acc => by
    rw [List.cons_append, valL, valL]
    split
    · exact valL_append a b _
    · rfl
theorem ofNat_d {k : Nat} (h : k < 10) : (UInt8.ofNat (48 + k)).toNat = 48 + k := by
  rw [UInt8.toNat_ofNat']
  omega
theorem isD_ofNat {k : Nat} (h : k < 10) : isD (UInt8.ofNat (48 + k)) = true := by
  unfold isD
  rw [ofNat_d h]
  simp
  omega
theorem dec_small {u : Nat} (h : u < 10) : decDigits u = [UInt8.ofNat (48 + u)] := by rw [decDigits, dif_pos h]
theorem valL_dec (u : Nat) : valL 0 (decDigits u) = some u := by
  induction u using Nat.strongRecOn with
  | _ u ih =>
    by_cases h : u < 10
    · rw [dec_small h, valL, if_pos (isD_ofNat h), ofNat_d h, valL]
      congr 1
      omega
    · rw [dec_big h, valL_append, ih (u / 10) (by omega), Option.bind_some, valL, if_pos (isD_ofNat (by omega)), ofNat_d (by omega), valL]
      congr 1
      omega
theorem dec_all (u : Nat) : ∀ c ∈ decDigits u, isD c = true := by
  induction u using Nat.strongRecOn with
  | _ u ih =>
    intro c hc
    by_cases h : u < 10
    · rw [dec_small h] at hc
      rw [List.mem_singleton.1 hc]
      exact isD_ofNat h
    · rw [dec_big h] at hc
      rcases List.mem_append.1 hc with hc | hc
      · exact ih (u / 10) (by omega) c hc
      · rw [List.mem_singleton.1 hc]
        exact isD_ofNat (by omega)
theorem dec_ne (u : Nat) : decDigits u ≠ [] := by
  by_cases h : u < 10
  · rw [dec_small h]; simp
  · rw [dec_big h]; simp
theorem head_append {a b : List UInt8} (h : a ≠ []) : (a ++ b).head? = a.head? := by
  cases a with
  | nil => exact absurd rfl h
  | cons x a => rfl
theorem dec_head (u : Nat) (h1 : 1 ≤ u) : (decDigits u).head? ≠ some 48 := by
  induction u using Nat.strongRecOn with
  | _ u ih =>
    by_cases h : u < 10
    · rw [dec_small h]
      intro hc
      have := congrArg UInt8.toNat (Option.some.inj hc)
      rw [ofNat_d h] at this
      have h2 : (48 : UInt8).toNat = 48 := rfl
      omega
    · rw [dec_big h, head_append (dec_ne _)]
      exact ih (u / 10) (by omega) (by omega)
theorem dec_zero : decDigits 0 = [48] := by rw [dec_small (by decide)]; rfl
theorem dec_len_le (k : Nat) (u : Nat) (h : u < 10 ^ (k + 1)) : (decDigits u).length ≤ k + 1 := by
  induction k generalizing u with
  | zero => rw [dec_small (by omega)]; simp
  | succ k ih =>
    by_cases hu : u < 10
    · rw [dec_small hu]; simp
    · rw [dec_big hu, List.length_append]
      have := ih (u / 10) (by rw [Nat.pow_succ] at h; omega)
      simp
      omega
/-- A text of digits without a nought ahead is its number's text. -/
theorem dec_of_val : ∀ (n : Nat) (s : List UInt8) (v : Nat), s.length = n → s ≠ [] → (s.head? = some 48 → s.length ≤ 1) → valL 0 s = some v → decDigits v = s
  | 0, s, v, hn, h0, _, _ => by cases s with
    | nil => exact absurd rfl h0
    | cons x r => cases hn
  | n + 1, s, v, hn, h0, hz, hv => by
    have hs := List.dropLast_concat_getLast h0
    generalize hc : s.getLast h0 = c at hs
    generalize ha : s.dropLast = a at hs
    have hal : a.length = n := by rw [← ha, List.length_dropLast, hn]; rfl
    subst hs
    rw [valL_append] at hv
    cases hva : valL 0 a with
    | none => rw [hva] at hv; cases hv
    | some w =>
      rw [hva, Option.bind_some, valL] at hv
      split at hv
      · rename_i hd
        have hd' := hd
        unfold isD at hd'
        simp only [Bool.and_eq_true, decide_eq_true_eq] at hd'
        have hv : 10 * w + (c.toNat - 48) = v := Option.some.inj hv
        have hcc : UInt8.ofNat (48 + (c.toNat - 48)) = c := by
          rw [show 48 + (c.toNat - 48) = c.toNat by omega]
          exact UInt8.ofNat_toNat
        cases hae : a with
        | nil =>
          subst hae
          have hw : 0 = w := Option.some.inj hva
          subst hw
          rw [dec_small (by omega), ← hv, show 10 * 0 + (c.toNat - 48) = c.toNat - 48 by omega, hcc]
          rfl
        | cons x r =>
          have hane : a ≠ [] := by rw [hae]; simp
          have hah : a.head? ≠ some 48 := fun h => by
            have := hz (by rw [head_append hane]; exact h)
            rw [List.length_append, hae] at this
            simp at this
          have ih := dec_of_val n a w hal hane (fun h => absurd h hah) hva
          have hw1 : 1 ≤ w := by
            rcases Nat.eq_zero_or_pos w with h | h
            · subst h
              rw [dec_zero] at ih
              rw [← ih] at hah
              exact absurd rfl hah
            · exact h
          rw [← hae, dec_big (by omega), show v / 10 = w by omega, ih, show v % 10 = c.toNat - 48 by omega, hcc]
      · cases hv
/-! numbers as the reference reads them -/
def numV (s : List UInt8) : Int × Bool := if s = [] ∨ 10 < s.length ∨ (s.head? = some 48 ∧ 1 < s.length) then (0, false) else match valL 0 s with
  | some n => (n, true)
  | none => (0, false)
theorem numV_ok {s : List UInt8} (h : (numV s).2 = true) : ∃ n : Nat, (numV s).1 = n ∧ decDigits n = s := by
  unfold numV at h ⊢
  split at h
  · cases h
  · rename_i hc
    rw [if_neg hc]
    cases hv : valL 0 s with
    | none => rw [hv] at h; cases h
    | some n => exact ⟨n, rfl, dec_of_val _ s n rfl (fun e => hc (.inl e)) (fun e => by apply Nat.le_of_not_lt; intro h1; exact hc (.inr (.inr ⟨e, h1⟩))) hv⟩
theorem numV_dec {n : Nat} (h : n < 10000000000) : numV (decDigits n) = ((n : Int), true) := by
  unfold numV
  have h1 := dec_len_le 9 n h
  rw [if_neg, valL_dec]
  rintro (h2 | h2 | ⟨h2, h3⟩)
  · exact dec_ne n h2
  · omega
  · by_cases h0 : 1 ≤ n
    · exact dec_head n h0 h2
    · obtain rfl : n = 0 := by omega
      rw [dec_zero] at h3
      simp at h3
def sgnV (s : List UInt8) : Int × Bool := if s.head? = some 45 then (-(numV s.tail).1, (numV s.tail).2 && decide ((numV s.tail).1 > 0)) else numV s
theorem sgnV_ok {s : List UInt8} (h : (sgnV s).2 = true) : itoa (sgnV s).1 = s := by
  unfold sgnV at h ⊢
  split at h
  · rename_i hc
    rw [if_pos hc]
    rw [Bool.and_eq_true, decide_eq_true_eq] at h
    obtain ⟨n, h1, h2⟩ := numV_ok h.1
    dsimp only
    rw [h1] at h ⊢
    rw [itoa_neg n (by omega), h2]
    cases s with
    | nil => cases hc
    | cons x r => rw [Option.some.inj hc]; rfl
  · rename_i hc
    rw [if_neg hc]
    obtain ⟨n, h1, h2⟩ := numV_ok h
    rw [h1, itoa_nonneg, h2]
theorem dec_not {u : Nat} {c : UInt8} (hc : isD c = false) : c ∉ decDigits u := fun h => by rw [dec_all u c h] at hc; cases hc
theorem head_mem {l : List UInt8} {c : UInt8} (h : l.head? = some c) : c ∈ l := by
  cases l with
  | nil => cases h
  | cons x r => rw [← Option.some.inj h]; simp
theorem sgnV_itoa {z : Int} (h1 : -10000000000 < z) (h2 : z < 10000000000) : sgnV (itoa z) = (z, true) := by
  by_cases h : z < 0
  · obtain ⟨n, rfl⟩ : ∃ n : Nat, z = -(n : Int) := ⟨z.natAbs, by omega⟩
    rw [itoa_neg n (by omega)]
    unfold sgnV
    rw [if_pos (show (45 :: decDigits n).head? = some 45 from rfl), List.tail_cons, numV_dec (by omega)]
    simp
    omega
  · obtain ⟨n, rfl⟩ : ∃ n : Nat, z = (n : Int) := ⟨z.toNat, by omega⟩
    rw [itoa_nonneg]
    unfold sgnV
    rw [if_neg (fun h => dec_not (by decide) (head_mem h)), numV_dec (by omega)]
/-! splitting -/
def splS (c : UInt8) : List UInt8 → List (List UInt8)
  | [] => [[]]
  | x :: r => if x = c then [] :: splS c r else match splS c r with
    | h :: t => (x :: h) :: t
    | [] => [[x]]
theorem splS_ne (c : UInt8) (s : List UInt8) : splS c s ≠ [] := by
  cases s with
  | nil => simp [splS]
  | cons x r =>
    rw [splS]
    split
    · simp
    · split <;> simp
theorem splS_none {c : UInt8} : ∀ {a : List UInt8}, c ∉ a → splS c a = [a]
  | [], _ => rfl
  | x :: a, h => by
    rw [splS, if_neg (fun e => h (by rw [e]; simp)), splS_none (a := a) fun hm => h (List.mem_cons_of_mem _ hm)]
theorem splS_some {c : UInt8} {b : List UInt8} : ∀ {a : List UInt8}, c ∉ a → splS c (a ++ c :: b) = a :: splS c b
  | [], _ => by rw [List.nil_append, splS, if_pos rfl]
  | x :: a, h => by
    rw [List.cons_append, splS, if_neg (fun e => h (by rw [e]; simp)), splS_some (a := a) fun hm => h (List.mem_cons_of_mem _ hm)]
theorem splS_back (c : UInt8) : ∀ (s a : List UInt8) (t : List (List UInt8)), splS c s = a :: t → (t = [] → s = a) ∧ (t ≠ [] → ∃ s', splS c s' = t ∧ s = a ++ c :: s')
  | [], a, t, h => by
    rw [splS] at h
    cases h
    exact ⟨fun _ => rfl, fun h => absurd rfl h⟩
  | x :: r, a, t, h => by
    rw [splS] at h
    split at h
    · rename_i hx
      cases h
      exact ⟨fun h => absurd h (splS_ne c r), fun _ => ⟨r, rfl, by rw [hx]; rfl⟩⟩
    · cases hr : splS c r with
      | nil => exact absurd hr (splS_ne c r)
      | cons b u =>
        rw [hr] at h
        cases h
        obtain ⟨h1, h2⟩ := splS_back c r b _ hr
        exact ⟨fun hu => by rw [h1 hu], fun hu => by obtain ⟨s', h3, h4⟩ := h2 hu; exact ⟨s', h3, by rw [h4]; rfl⟩⟩
/-! fractions -/
def readP : List (List UInt8) → Q × Bool
  | [a] => (⟨(sgnV a).1, 1⟩, (sgnV a).2 && okQ ⟨(sgnV a).1, 1⟩)
  | [a, b] => (⟨(sgnV a).1, (numV b).1⟩, ((sgnV a).2 && (numV b).2 && decide ((numV b).1 ≠ 1)) && okQ ⟨(sgnV a).1, (numV b).1⟩)
  | _ => (⟨0, 0⟩, false)
def readV (s : List UInt8) : Q × Bool := readP (splS 47 s)
theorem readV_ok {s : List UInt8} (h : (readV s).2 = true) : txtQ (readV s).1 = s ∧ okQ (readV s).1 = true := by
  unfold readV at h ⊢
  generalize hs : splS 47 s = ps at h ⊢
  unfold readP at h ⊢
  split at h
  · rename_i a
    dsimp only
    rw [Bool.and_eq_true] at h
    obtain ⟨h1, _⟩ := splS_back 47 s a [] hs
    refine ⟨?_, h.2⟩
    rw [txtQ, if_pos rfl, sgnV_ok h.1, h1 rfl]
  · rename_i a b
    dsimp only
    rw [Bool.and_eq_true, Bool.and_eq_true, Bool.and_eq_true, decide_eq_true_eq] at h
    obtain ⟨⟨⟨h1, h2⟩, h3⟩, h4⟩ := h
    obtain ⟨_, h5⟩ := splS_back 47 s a [b] hs
    obtain ⟨s', h6, h7⟩ := h5 (by simp)
    have h8 := (splS_back 47 s' b [] h6).1 rfl
    obtain ⟨n, h9, h10⟩ := numV_ok h2
    refine ⟨?_, h4⟩
    rw [txtQ, if_neg h3, sgnV_ok h1, h7, h8]
    dsimp only
    rw [h9, itoa_nonneg, h10]
  · cases h
theorem itoa_not {z : Int} {c : UInt8} (hc : isD c = false) (h45 : c ≠ 45) : c ∉ itoa z := by
  unfold itoa
  split
  · intro h
    rcases List.mem_cons.1 h with h | h
    · exact h45 h
    · exact dec_not hc h
  · exact dec_not hc
theorem itoa_pos {z : Int} (h : 0 ≤ z) : itoa z = decDigits z.toNat := by unfold itoa; rw [if_neg (by omega)]
theorem readV_txt {a : Q} (h : okQ a = true) : readV (txtQ a) = (a, true) := by
  obtain ⟨h1, h2, h3, h4, _⟩ := okQ_iff.1 h
  have hn : (47 : UInt8) ∉ itoa a.p := itoa_not (by decide) (by decide)
  by_cases hq : a.q = 1
  · rw [show txtQ a = itoa a.p from if_pos hq]
    have : (⟨a.p, 1⟩ : Q) = a := by rw [← hq]
    simp only [readV, readP, splS_none hn, sgnV_itoa (z := a.p) (by omega) (by omega), this, h]
    rfl
  · rw [show txtQ a = itoa a.p ++ 47 :: itoa a.q from if_neg hq]
    have hn2 : (47 : UInt8) ∉ itoa a.q := itoa_not (by decide) (by decide)
    have hnum : numV (itoa a.q) = (a.q, true) := by
      rw [itoa_pos (by omega), numV_dec (by omega)]
      congr 1
      omega
    have : (⟨a.p, a.q⟩ : Q) = a := rfl
    simp only [readV, readP, splS_some hn, splS_none hn2, sgnV_itoa (z := a.p) (by omega) (by omega), hnum, this, h]
    simp [hq]
/-! what the library reads -/
theorem isD_le {c : UInt8} : isD c = true ↔ 48 ≤ c.toNat ∧ c.toNat ≤ 57 := by unfold isD; simp
def numZ (s : List UInt8) : Int := match Lib.parseIntB 64 s with
  | .ok v => v
  | _ => 0
theorem parse_val : ∀ (s : List UInt8) (acc v : Nat), valL acc s = some v → v < 1000000000000 → Lib.parseUint10 acc s = .ok v
  | [], acc, v, h, _ => by rw [Lib.parseUint10]; rw [Option.some.inj h]
  | c :: r, acc, v, h, hv => by
    rw [valL] at h
    split at h
    · rename_i hd
      have hm : 10 * acc + (c.toNat - 48) ≤ v := by
        clear hv hd
        generalize 10 * acc + (c.toNat - 48) = b at h
        induction r generalizing b with
        | nil => rw [Option.some.inj h]; exact Nat.le_refl _
        | cons x r ih =>
          rw [valL] at h
          split at h
          · have := ih _ h; omega
          · cases h
      have ih := parse_val r _ v h hv
      have hd := isD_le.1 hd
      rw [Lib.parseUint10, if_pos hd, if_neg (by omega), if_neg (by omega), Nat.mul_comm acc 10]
      exact ih
    · cases h
theorem mag_dec {n : Nat} (h : n < 1000000000000) : Lib.parseMag (decDigits n) = .ok n := by
  unfold Lib.parseMag
  rw [if_neg (dec_ne n)]
  exact parse_val _ 0 n (valL_dec n) h
theorem numZ_itoa {z : Int} (h1 : -1000000000000 < z) (h2 : z < 1000000000000) : numZ (itoa z) = z := by
  unfold numZ
  rw [Lib.parseIntB_64]
  by_cases h : z < 0
  · obtain ⟨n, rfl⟩ : ∃ n : Nat, z = -(n : Int) := ⟨z.natAbs, by omega⟩
    rw [itoa_neg n (by omega), Lib.atoiAll]
    rw [if_pos (show UInt8.toNat 45 = 43 ∨ UInt8.toNat 45 = 45 from Or.inr rfl), mag_dec (by omega)]
    dsimp only
    rw [if_neg (fun h => h.1 (show UInt8.toNat 45 = 45 from rfl)), if_neg (by omega), if_pos (show UInt8.toNat 45 = 45 from rfl)]
  · obtain ⟨n, rfl⟩ : ∃ n : Nat, z = (n : Int) := ⟨z.toNat, by omega⟩
    rw [itoa_nonneg]
    have hm := mag_dec (n := n) (by omega)
    have ha := dec_all n
    have hne := dec_ne n
    generalize decDigits n = l at hm ha hne
    cases l with
    | nil => exact absurd rfl hne
    | cons c r =>
      have hd := isD_le.1 (ha c (by simp))
      rw [Lib.atoiAll]
      rw [if_neg (by omega), hm]
      dsimp only
      rw [if_neg (by omega), if_neg (by omega), if_neg (by omega)]
theorem index_out {a : List UInt8} {c : UInt8} (h : c ∉ a) : Lib.index a [c] = -1 := by
  induction a with
  | nil => rfl
  | cons x a ih =>
    have hx : x ≠ c := fun e => h (by rw [e]; simp)
    rw [Lib.index, ih (fun hm => h (List.mem_cons_of_mem _ hm))]
    have : List.isPrefixOf [c] (x :: a) = false := by
      simp [List.isPrefixOf, Ne.symm hx]
    rw [this]
    rfl
theorem index_in {a b : List UInt8} {c : UInt8} (h : c ∉ a) : Lib.index (a ++ c :: b) [c] = a.length := by
  induction a with
  | nil =>
    rw [List.nil_append, Lib.index]
    have : List.isPrefixOf [c] (c :: b) = true := by simp [List.isPrefixOf]
    rw [this]
    rfl
  | cons x a ih =>
    have hx : x ≠ c := fun e => h (by rw [e]; simp)
    rw [List.cons_append, Lib.index, ih (fun hm => h (List.mem_cons_of_mem _ hm))]
    have : List.isPrefixOf [c] (x :: (a ++ c :: b)) = false := by
      simp [List.isPrefixOf, Ne.symm hx]
    rw [this]
    have h2 : ((a.length : Int) == -1) = false := by simp
    simp [h2]
theorem cut_out {a : List UInt8} {c : UInt8} (h : c ∉ a) : Lib.cut a [c] = (a, [], false) := by
  unfold Lib.cut
  rw [index_out h]
  rfl
theorem cut_in {a b : List UInt8} {c : UInt8} (h : c ∉ a) : Lib.cut (a ++ c :: b) [c] = (a, b, true) := by
  unfold Lib.cut
  rw [index_in h, if_pos (by omega)]
  simp
def outI (s : List UInt8) : Q := ⟨numZ (Lib.cut s [47]).1, if (Lib.cut s [47]).2.2 then numZ (Lib.cut s [47]).2.1 else 1⟩
theorem outI_txt {a : Q} (h : okQ a = true) : outI (txtQ a) = a := by
  obtain ⟨h1, h2, h3, h4, _⟩ := okQ_iff.1 h
  have hn : (47 : UInt8) ∉ itoa a.p := itoa_not (by decide) (by decide)
  unfold outI
  by_cases hq : a.q = 1
  · rw [show txtQ a = itoa a.p from if_pos hq, cut_out hn]
    dsimp only
    rw [numZ_itoa (by omega) (by omega)]
    show (⟨a.p, 1⟩ : Q) = a
    rw [← hq]
  · rw [show txtQ a = itoa a.p ++ 47 :: itoa a.q from if_neg hq, cut_in hn]
    dsimp only
    rw [numZ_itoa (by omega) (by omega), numZ_itoa (by omega) (by omega)]
    rfl
theorem itoa_ne (z : Int) : itoa z ≠ [] := by
  unfold itoa
  split
  · simp
  · exact dec_ne _
theorem txtQ_ne (a : Q) : txtQ a ≠ [] := by
  unfold txtQ
  split
  · exact itoa_ne _
  · simp
def implR (s : List UInt8) : Q × Int := if s = [] ∨ ftxt (outI s) ≠ s then (⟨0, 0⟩, 5) else (outI s, 0)
def specR (s : List UInt8) : Q × Int := if (readV s).2 then ((readV s).1, 0) else (⟨0, 0⟩, 5)
theorem read_alike (s : List UInt8) : implR s = specR s := by
  unfold implR specR
  by_cases h : (readV s).2 = true
  · obtain ⟨h1, h2⟩ := readV_ok h
    rw [if_pos h]
    have ho : outI s = (readV s).1 := by
      have := outI_txt h2
      rwa [h1] at this
    rw [if_neg, ho]
    rintro (h3 | h3)
    · rw [h3] at h1; exact txtQ_ne _ h1
    · rw [ho, ftxt_yes h2] at h3; exact h3 h1
  · rw [if_neg h]
    by_cases hs : s = [] ∨ ftxt (outI s) ≠ s
    · rw [if_pos hs]
    · exfalso
      have hs1 : s ≠ [] := fun e => hs (.inl e)
      have hs2 : ftxt (outI s) = s := Classical.byContradiction fun e => hs (.inr e)
      by_cases hok : okQ (outI s) = true
      · rw [ftxt_yes hok] at hs2
        have := readV_txt hok
        rw [hs2] at this
        rw [this] at h
        exact h rfl
      · rw [ftxt_no (by simpa using hok)] at hs2
        exact hs1 hs2.symm
attribute [irreducible] readV

end Go.Proofs.YtadliapkjijahaaGreatDoor
