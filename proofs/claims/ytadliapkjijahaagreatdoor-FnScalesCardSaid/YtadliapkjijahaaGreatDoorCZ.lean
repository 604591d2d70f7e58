/- What the listed variables hold when a call begins, and the shape of the world; no condition. -/
import Derived.Test.YtadliapkjijahaaGreatDoorAb
import Derived.Test.YtadliapkjijahaaGreatDoorC1
import Derived.Test.YtadliapkjijahaaGreatDoorC2
import Derived.Test.YtadliapkjijahaaGreatDoorC3
import Derived.Test.YtadliapkjijahaaGreatDoorC4
import Derived.Test.YtadliapkjijahaaGreatDoorC10
import Derived.Test.YtadliapkjijahaaGreatDoorC12
import Derived.Test.YtadliapkjijahaaGreatDoorC24
import Derived.Test.YtadliapkjijahaaGreatDoorC25
import Derived.Test.YtadliapkjijahaaGreatDoorCK
import Derived.Test.YtadliapkjijahaaGreatDoorCF
import Derived.Test.YtadliapkjijahaaGreatDoorCP
import Derived.Test.YtadliapkjijahaaGreatDoorC50
import Derived.Test.YtadliapkjijahaaGreatDoorF
import Derived.Test.YtadliapkjijahaaGreatDoorProg
import Derived.Test.YtadliapkjijahaaGreatDoorChecked
import Derived.Test.YtadliapkjijahaaGreatDoorRows
import Derived.WalkKit
import Derived.ProofKit
import Derived.OpenShut
import Derived.ChangeOld
import Derived.Below
import Derived.SizedLaws
import Derived.LaidLaws
import Derived.LaidMore
import Derived.Lib.LaidTab
import Derived.HandedShaped
import Derived.Shelf.Vars
import Derived.ChangeMaps5
set_option linter.unusedVariables false
set_option linter.unusedSimpArgs false
namespace Go.Proofs.YtadliapkjijahaaGreatDoor
open Ab

open Go.ChangeShapes Go.WideShapes Go.ChangeAt Go.RowKit
set_option maxRecDepth 100000 in
theorem opens_str {t : TypeId} (ht : Tryz.prog.underlying t = some .string) : Opens Tryz.prog t .str (fun s _ => s.size ≤ maxLen) := by
  intro H enc w base spare held r b0 v d p hv h
  obtain ⟨s, rfl, _, _, hs⟩ := Go.ChangeMaps.open_string ht hv h
  exact ⟨s, rfl, hs⟩
/-- The wrap that keeps both what is listed and the world's shape. -/
theorem handed_both {H : Type} {enc : TypeId × Value → H} {a : Assume} {C : Checked} {os : Os} {f : FuncId} {fn : Func} {s : ChangeSpec} {conds : List PathCond} {apart fresh handsOn again : Bool} {X : World → Array Value → Prop}
    (hX : ∀ (w w' : World) (args : Array Value), w.heap = w'.heap → X w args → X w' args)
    (own : ownKnob C.prog.godebug = none) (started : os.Started) (noInit : C.prog.inits.idxOf? f = none) (hfn : C.prog.funcs[f]? = some fn)
    (witness : ∃ (w : World) (tape : Tape) (i : Input), w.os = os ∧ (w.forCall tape i).Shaped C.prog ∧ i.vars = [] ∧ Input.okWide C.prog (w.forCall tape i) .any w.heap.size f i ∧
      ((s.pre enc C.prog fn conds apart (w.forCall tape i).memory i.args ∧ X (w.forCall tape i).memory i.args) ∧ sizedMet enc C.prog fn (OpenSpec.ofChange s) apart (w.forCall tape i).memory i.args) ∧ a.holds C.prog (lone (Frame.enter C.prog f i.args .normal) [] (w.forCall tape i)))
    (contract : ∀ (W : World) (base : Nat) (args : Array Value) (ds gs : List (DataW H)) (before : List MemPlace),
      (∀ (j : Nat) t v, fn.params[j]? = some t → args[j]? = some v → Value.okWide C.prog W .any base t v) →
      DataW.Whole enc C.prog fn.params.toList s.vars apart W args.toList ds gs before →
      conds.all (PathCond.test C.prog ⟨fn.params.toList, ds, s.plain.varTypes C.prog, gs⟩) = true → X W args → W.ShapedOpen C.prog →
      Calls C.prog f args W fun e W' => ∃ v, e = .returned v ∧ s.post enc C.prog fn apart fresh handsOn again W args v W') :
    ReturnsInHanded a C os f .any (fun w args => (s.pre enc C.prog fn conds apart w args ∧ X w args) ∧ sizedMet enc C.prog fn (OpenSpec.ofChange s) apart w args) (s.post enc C.prog fn apart fresh handsOn again) := by
  refine returnsInHanded_of_calls own started noInit witness ?_
  intro w tape i _ hsh _ hok hpre hholds
  obtain ⟨_, _, _, fn', hfn', _, _, _, _, hval⟩ := hok
  obtain rfl : fn' = fn := Option.some.inj (hfn'.symm.trans hfn)
  obtain ⟨⟨⟨ds, gs, before, hw, hc⟩, hx⟩, hz⟩ := hpre
  refine (contract (w.forCall tape i) w.heap.size i.args ds gs before hval (DataW.Whole.of_heap (w' := w.forCall tape i) (by rfl) hw) hc (hX _ _ _ (by rfl) hx) hsh).mono fun e W' ⟨v, he, hp⟩ => ?_
  subst he
  exact ChangeSpec.post_blind hp
theorem gTType : (Tryz.prog.globals[3]?).map (·.type) = some 191 := by kernel_rfl
theorem gSyn : Tryz.prog.globalNamed "strconv.ErrSyntax" = some 1 := by kernel_rfl
theorem gRan : Tryz.prog.globalNamed "strconv.ErrRange" = some 2 := by kernel_rfl
theorem gSynT : (Tryz.prog.globals[1]?).map (·.type) = some 128 := by kernel_rfl
theorem gRanT : (Tryz.prog.globals[2]?).map (·.type) = some 128 := by kernel_rfl
theorem var_block {W : World} {name : String} {g : Nat} {cs : Array Value} (hg : Tryz.prog.globalNamed name = some g) (h : W.var? Tryz.prog name = some cs) : ∃ t fz, W.heap[g]? = some (Obj.cells cs t fz) := by
  unfold World.var? at h
  rw [hg] at h
  dsimp only [Option.bind_some] at h
  split at h
  · rename_i cs' t fz hb
    cases h
    exact ⟨t, fz, hb⟩
  · cases h
set_option maxRecDepth 100000 in
theorem holds_laid {a b c d : String × DataW Unit} {W : World} (hsh : W.ShapedOpen Tryz.prog) (h : laidMet Tryz.prog [a, b, ("internal/strconv.uint64pow10", Rows.laid_internal_strconv_uint64pow10), c, ("strconv.ErrRange", Rows.laid_strconv_ErrRange), ("strconv.ErrSyntax", Rows.laid_strconv_ErrSyntax), d] W) : Holds W [] ⟨fun a => W.cell? a, fun _ => none⟩ := by
  obtain ⟨ps, hv, _, _⟩ := h
  obtain ⟨g0, t0, cs0, f0, p0, q0, hg0, ht0, hv0, hd0, ⟨g1, t1, cs1, f1, p1, q1, hg1, ht1, hv1, hd1, ⟨g2, t2, cs2, f2, p2, q2, hg2, ht2, hv2, hd2, ⟨g8, t8, cs8, f8, p8, q8, hg8, ht8, hv8, hd8, ⟨g3, t3, cs3, f3, p3, q3, hg3, ht3, hv3, hd3, ⟨g4, t4, cs4, f4, p4, q4, hg4, ht4, hv4, hd4, _, _⟩, _⟩, _⟩, _⟩, _⟩, _⟩ := hv
  obtain rfl := Option.some.inj (glob_tab.symm.trans hg2)
  obtain rfl := Option.some.inj (gTType.symm.trans ht2)
  obtain rfl := Option.some.inj (gRan.symm.trans hg3)
  obtain rfl := Option.some.inj (gRanT.symm.trans ht3)
  obtain rfl := Option.some.inj (gSyn.symm.trans hg4)
  obtain rfl := Option.some.inj (gSynT.symm.trans ht4)
  have hcs := Lib.cells_of_tab (k := .u64) (zs := Lib.pow10Tab) Tryz.underlying191 Tryz.underlying104 (by kernel_rfl) (by kernel_rfl) hd2
  obtain ⟨_, u3, v3, e3, _⟩ := iface_of_trod Tryz.underlying128 hd3
  obtain ⟨_, u4, v4, e4, _⟩ := iface_of_trod Tryz.underlying128 hd4
  obtain ⟨tt2, fz2, hb2⟩ := var_block hg2 hv2
  obtain ⟨tt3, fz3, hb3⟩ := var_block hg3 hv3
  obtain ⟨tt4, fz4, hb4⟩ := var_block hg4 hv4
  obtain ⟨mm, hm⟩ := cell_of_shapedOpen_int (P := Tryz.prog) (g := 0) (t := 3) (zero := #[.int .i64 0]) hsh (of_decide_eq_true (by kernel_rfl)) (by kernel_rfl) rfl (by kernel_rfl) (by kernel_rfl) Tryz.underlying3
  have hmb : ∃ cs t fz, W.heap[0]? = some (Obj.cells cs t fz) ∧ ∃ m, cs[0]? = some (Value.int .i64 m) := by
    unfold World.cell? at hm
    split at hm
    · rename_i c t fz hb
      exact ⟨c, t, fz, hb, mm, hm⟩
    · cases hm
  intro x hx
  unfold GT at hx
  rcases List.mem_cons.1 hx with rfl | hx
  · exact ⟨⟨cs2, tt2, fz2, hb2, show cs2 = _ by rw [← hcs]⟩, by simp, rfl⟩
  rcases List.mem_cons.1 hx with rfl | hx
  · exact ⟨hmb, by simp, rfl⟩
  rcases List.mem_cons.1 hx with rfl | hx
  · exact ⟨⟨cs4, tt4, fz4, hb4, .iface u4 v4, by rw [← Array.getElem?_toList, e4]; rfl, .inr ⟨_, _, rfl⟩⟩, by simp, rfl⟩
  obtain rfl := List.mem_singleton.1 hx
  exact ⟨⟨cs3, tt3, fz3, hb3, .iface u3 v3, by rw [← Array.getElem?_toList, e3]; rfl, .inr ⟨_, _, rfl⟩⟩, by simp, rfl⟩

end Go.Proofs.YtadliapkjijahaaGreatDoor
