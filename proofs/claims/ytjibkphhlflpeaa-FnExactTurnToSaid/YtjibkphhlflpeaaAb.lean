/- An abstract runner for code, sound for the calls of the model; no condition. -/
import Derived.Orders
import Derived.Tactics
import Derived.Laws.Cells
import Derived.Laws.Append
import Derived.Laws.BytesString
import Derived.Laws.AppendOwn
import Derived.Laws.MakeOwn
import Derived.KernelRfl
import Derived.Deep.Slices
import Derived.Deep.Fields
import Derived.ChangeSame
import Derived.Lib.SmallJoins
import Derived.Carry
import Derived.RowKit
import Derived.OpenShut
set_option linter.unusedVariables false
set_option linter.unusedSimpArgs false
namespace Go.Proofs.Ytjibkphhlflpeaa.Ab

/-- An abstract value: a value that holds no pointer into the call's own variables, or such a pointer (a variable's number and a cell). -/
inductive AV where
  | v (x : Value)
  | p (i o : Nat)
deriving Inhabited

abbrev Blk := List Value × TypeId
abbrev Mem := List Blk
/-- What is known of memory that is not the call's own variables: cells; and the rows that are the call's own to write (their sizes in cells, their elements' types). -/
structure Ext where
  get : Addr → Option Value
  own : Nat → Option (Nat × TypeId)
instance : CoeFun Ext (fun _ => Addr → Option Value) := ⟨Ext.get⟩
structure St where
  fr : List AV
  m : Mem
  E : Ext

def St.put (s : St) (d : Option Tmp) (a : AV) : St := match d with
  | some d => { s with fr := s.fr.set d a }
  | none => s

def Ext.le (E E' : Ext) : Prop := ∀ a v, E a = some v → E' a = some v
def Ext.shut (E : Ext) : Ext := ⟨E.get, fun _ => none⟩
/-- A write into a row of one's own. -/
def Ext.upd (E : Ext) (b o : Nat) (cs : List Value) : Ext := ⟨fun a => if a.block = b ∧ a.spot = none ∧ o ≤ a.off ∧ a.off < o + cs.length then cs[a.off - o]? else E a, E.own⟩
/-- A new row of one's own. -/
def Ext.with (E : Ext) (b : Nat) (cs : List Value) (sz : Nat) (e : TypeId) : Ext := ⟨fun a => if a.block = b ∧ a.spot = none then cs[a.off]? else E a, fun b' => if b' = b then some (sz, e) else E.own b'⟩
/-- A row that is made. -/
structure NewRow (E : Ext) (cs : List Value) (e : TypeId) where
  b : Nat
  fresh : ∀ a v, E a = some v → a.block ≠ b
  fresho : E.own b = none
def NewRow.to {E : Ext} {cs : List Value} {e : TypeId} (r : NewRow E cs e) : Ext := E.with r.b cs cs.length e
theorem NewRow.le {E : Ext} {cs : List Value} {e : TypeId} (r : NewRow E cs e) : Ext.le E r.to := fun a v h => by
  unfold NewRow.to Ext.with
  dsimp only
  rw [if_neg (fun h' => r.fresh a v h h'.1)]
  exact h
theorem NewRow.at_ {E : Ext} {cs : List Value} {e : TypeId} (r : NewRow E cs e) (j : Nat) : r.to ⟨r.b, j, none⟩ = cs[j]? := by
  unfold NewRow.to Ext.with
  dsimp only
  rw [if_pos ⟨rfl, rfl⟩]
/-- A slice, as a value. -/
structure SlV where
  a : Option Addr
  n : Nat
  c : Nat
def SlV.v (s : SlV) : Value := .slice s.a s.n s.c
/-- Cells that may be written. -/
def Owned (E : Ext) (ad : Addr) (n : Nat) : Prop := ad.spot = none ∧ ∃ p, E.own ad.block = some p ∧ ad.off + n ≤ p.1
/-- A slice over a whole row of one's own; only its elements' cells are known. -/
def OwnRow (E : Ext) (e : TypeId) (sz : Nat) (s : SlV) (xs : List Value) : Prop :=
  xs.length = s.n * sz ∧ s.n ≤ s.c ∧ s.c ≤ maxLen ∧ ((s.a = none ∧ s.n = 0 ∧ s.c = 0) ∨ ∃ b, s.a = some ⟨b, 0, none⟩ ∧ E.own b = some (s.c * sz, e) ∧ ∀ j, E ⟨b, j, none⟩ = xs[j]?)
def RowCells (E : Ext) (s : SlV) (sz : Nat) (xs : List Value) : Prop := xs.length = s.n * sz ∧ (s.a = none → s.n = 0) ∧ ∀ a, s.a = some a → ∀ j v, xs[j]? = some v → E (a.add j) = some v
def cellOk : Value → Bool
  | .agg _ => false
  | .tuple _ => false
  | _ => true
/-- What is to be shown for append: the slice's own cells and what is appended. -/
structure AppPre (E : Ext) (e : TypeId) (sz : Nat) (s x : SlV) (y : List Value × List Value) : Prop where
  own : OwnRow E e sz s y.1
  row : RowCells E x sz y.2
  one : ∀ u ∈ y.2, cellOk u = true
  small : s.n + x.n ≤ 1099511627776
structure AppPost (E : Ext) (e : TypeId) (sz : Nat) (s x : SlV) (y : List Value × List Value) (r : SlV) (E' : Ext) : Prop where
  own : OwnRow E' e sz r (y.1 ++ y.2)
  n : r.n = s.n + x.n
  le : Ext.le E E'
  other : ∀ b p, (∀ a, s.a = some a → a.block ≠ b) → E.own b = some p → E'.own b = some p ∧ ∀ a, a.block = b → E' a = E a
  fresh : ∀ a, r.a = some a → s.a = some a ∨ (∀ a' v, E a' = some v → a'.block ≠ a.block) ∧ E.own a.block = none

/-! Values laid out, so that what is left at the walk's end can be read. -/
def force1 (v : Value) (k : Value → Prop) : Prop := match v with
  | .int j n => k (.int j n)
  | .bool b => k (.bool b)
  | .string s => k (.string s)
  | .slice a n c => k (.slice a n c)
  | .pointer a => k (.pointer a)
  | v => k v
/-! What is evaluated is spelt with the recursors themselves: then the kernel and the elaborator lay it out alike. -/
noncomputable def forceL (l : List Value) : (List Value → Prop) → Prop :=
  List.rec (motive := fun _ => (List Value → Prop) → Prop) (fun k => k []) (fun v _ ih k => force1 v fun v' => ih fun r' => k (v' :: r')) l
noncomputable def force2 (v : Value) (k : Value → Prop) : Prop := match v with
  | .agg cs => forceL cs.toList fun l => k (.agg l.toArray)
  | v => force1 v k
noncomputable def forceM (l : List Value) : (List Value → Prop) → Prop :=
  List.rec (motive := fun _ => (List Value → Prop) → Prop) (fun k => k []) (fun v _ ih k => force2 v fun v' => ih fun r' => k (v' :: r')) l
noncomputable def force3 (v : Value) (k : Value → Prop) : Prop := match v with
  | .tuple cs => forceM cs.toList fun l => k (.tuple l.toArray)
  | v => force2 v k
/-- A number laid out. -/
def normN : Option Nat → Option Nat
  | some 0 => some 0
  | some 1 => some 1
  | some 2 => some 2
  | some 3 => some 3
  | some 4 => some 4
  | some 5 => some 5
  | some 6 => some 6
  | some 7 => some 7
  | some 8 => some 8
  | some 9 => some 9
  | some 10 => some 10
  | some 11 => some 11
  | some 12 => some 12
  | some 13 => some 13
  | some 14 => some 14
  | o => o
theorem normN_eq (o : Option Nat) : normN o = o := by unfold normN; split <;> rfl
def forceN (n : Nat) (k : Nat → Prop) : Prop := match normN (some n) with
  | some n' => k n'
  | none => k n
theorem forceN_iff {n : Nat} {k : Nat → Prop} : forceN n k ↔ k n := by
  unfold forceN
  rw [normN_eq]
noncomputable def force (a : AV) (k : AV → Prop) : Prop := match a with
  | .v x => force3 x fun y => k (.v y)
  | .p i j => forceN i fun i' => forceN j fun j' => k (.p i' j')

theorem Ext.self_of {E : Ext} (_ : Ext.le E E) : True := trivial

/-- What is to be shown beside the walk. -/
@[irreducible] def Side (p : Prop) : Prop := p
theorem Side.mk {p : Prop} (h : p) : Side p := by unfold Side; exact h
theorem Side.out {p : Prop} (h : Side p) : p := by unfold Side at h; exact h
theorem Side.id_ {p : Prop} (h : Side p) : Side p := h
/-- The walk's end. -/
@[irreducible] def Don (p : Prop) : Prop := p
theorem Don.mk {p : Prop} (h : p) : Don p := by unfold Don; exact h
theorem Don.out {p : Prop} (h : Don p) : p := by unfold Don at h; exact h

theorem Don.id_ {p : Prop} (h : Don p) : Don p := h

abbrev Kont := AV → Mem → Ext → Prop
/-- What a call does: a predicate transformer. -/
structure Sp where
  f : List AV → Mem → Ext → Kont → Prop
  mono : ∀ {bs m E} {K K' : Kont}, (∀ r m' E', K r m' E' → K' r m' E') → f bs m E K → f bs m E K'

/-- Contracts of what is called; and the slots whose variables lie beyond the call's own (functions may hold them). -/
structure Tab where
  l : List (FuncId × Sp)
  boxes : List Nat
def findL : List (FuncId × Sp) → FuncId → Option Sp
  | [], _ => none
  | (g, s) :: r, f => if Nat.beq g f then some s else findL r f
def Tab.find (T : Tab) (f : FuncId) : Option Sp := findL T.l f
def hasN : List Nat → Nat → Bool
  | [], _ => false
  | j :: r, i => match Nat.beq j i with
    | true => true
    | false => hasN r i
def Tab.boxed (T : Tab) (d : Option Tmp) : Bool := match d with
  | some d => hasN T.boxes d
  | none => false

/-- A run that reads no memory. -/
def prun {α : Type} (P : Program) : Sem α → Option α
  | .pure a => some a
  | .program k => prun P (k P)
  | .mark _ k => prun P k
  | _ => none

def ev (fr : List AV) : Operand → AV
  | .tmp t => fr.getD t (.v undef)
  | .const v => .v v
  | .global g => .v (.pointer (some ⟨g, 0, none⟩))
  | .func f => .v (.func (.func f) #[] #[])

def AV.val : AV → Option Value
  | .v x => some x
  | .p _ _ => none
def AV.plain : AV → Bool
  | .v _ => true
  | .p _ _ => false
def AV.value : AV → Value
  | .v x => x
  | .p _ _ => undef

def rho (fr : List AV) (x : Operand) : Value := (ev fr x).value

def noSel (o : Oper) : Bool := match o.op with
  | .select _ _ => false
  | _ => true
def gen (P : Program) (o : Oper) (s : St) (k : AV → Prop) : Prop :=
  match noSel o && o.op.operands.toList.all (fun x => (ev s.fr x).plain) with
  | true => match prun P (execOp (rho s.fr) o) with
    | some (.value x) => k (.v x)
    | _ => False
  | false => False

def aload (P : Program) (m : Mem) (t : TypeId) (i o : Nat) : Option AV :=
  match m[i]?, prun P (isAgg t), prun P (sizeOf t) with
  | some b, some true, some n => match Nat.ble (o + n) b.1.length with
    | true => some (.v (.agg ((b.1.drop o).take n).toArray))
    | false => none
  | some b, some false, _ => match b.1[o]? with
    | some x => some (.v x)
    | none => none
  | _, _, _ => none

/-- Cells of memory that the call doesn't write. -/
noncomputable def eloads (E : Ext) (a : Addr) (i n : Nat) : (List Value → Prop) → Prop :=
  Nat.rec (motive := fun _ => Nat → (List Value → Prop) → Prop) (fun _ k => k []) (fun _ ih i k => ∃ v, Side (E (a.add i) = some v) ∧ ih (i + 1) fun l => k (v :: l)) n i
noncomputable def eload (P : Program) (E : Ext) (t : TypeId) (a : Addr) (k : AV → Prop) : Prop :=
  match prun P (isAgg t), prun P (sizeOf t) with
  | some true, some n => eloads E a 0 n fun l => k (.v (.agg l.toArray))
  | some false, _ => ∃ v, Side (E a = some v) ∧ k (.v v)
  | _, _ => False

def foff (P : Program) (t : TypeId) (f : Nat) : Option Nat :=
  match prun P (underlying t) with
  | some (.struct fs) => match fs[f]? with
    | some g => match prun P (sizeOf g.type) with
      | some sz => match Nat.beq sz 0 with
        | true => none
        | false => normN (some g.offset)
      | none => none
    | none => none
  | _ => none

/-- An element's size, of a slice's type. -/
def esize (P : Program) (t : TypeId) : Option Nat :=
  match prun P (underlying t) with
  | some (.slice e) => normN (prun P (sizeOf e))
  | _ => none
def isStr (P : Program) (t : TypeId) : Bool :=
  match prun P (underlying t) with
  | some .string => true
  | _ => false

def setCells : List Value → Nat → List Value → List Value
  | cs, _, [] => cs
  | cs, o, v :: r => setCells (cs.set o v) (o + 1) r

def afill (place : Nat → Option (Nat × Nat)) : List (Nat × Value) → List Value → Option (List Value)
  | [], cs => some cs
  | (i, v) :: r, cs => match place i with
    | none => none
    | some (off, sz) => match Nat.beq v.cells.toList.length sz && Nat.ble (off + sz) cs.length with
      | true => afill place r (setCells cs off v.cells.toList)
      | false => none
def parts (fr : List AV) : List (Nat × Operand) → Option (List (Nat × Value))
  | [] => some []
  | (i, x) :: r => match ev fr x, parts fr r with
    | .v y, some l => some ((i, y) :: l)
    | _, _ => none
def splace (P : Program) (fs : Array Field) (i : Nat) : Option (Nat × Nat) := match fs.toList[i]? with
  | some f => match prun P (sizeOf f.type) with
    | some n => some (f.offset, n)
    | none => none
  | none => none
def abuild (P : Program) (t : TypeId) (ps : List (Nat × Value)) : Option (List Value) :=
  match prun P (zeroValue t), prun P (underlying t) with
  | some z, some (.struct fs) => match fs.toList.all fun f => (prun P (sizeOf f.type)).isSome with
    | true => afill (splace P fs) ps z.cells.toList
    | false => none
  | some z, some (.array _ e) => match prun P (sizeOf e) with
    | some n => afill (fun i => some (i * n, n)) ps z.cells.toList
    | none => none
  | _, _ => none
def zeroRow (z : List Value) : Nat → List Value
  | 0 => []
  | n + 1 => z ++ zeroRow z n
def abuildS (P : Program) (t : TypeId) (len : Nat) (ps : List (Nat × Value)) : Option (List Value × TypeId) :=
  match prun P (underlying t) with
  | some (.slice e) => match prun P (sizeOf e), prun P (zeroValue e) with
    | some n, some z => match Nat.beq z.cells.toList.length n && (Nat.ble 1 n && Nat.ble (len * n) 16777216) with
      | true => match afill (fun i => some (i * n, n)) ps (zeroRow z.cells.toList len) with
        | some cs => some (cs, e)
        | none => none
      | false => none
    | _, _ => none
  | _ => none

def eqCells : List Value → List Value → Option Bool
  | [], [] => some true
  | .int j a :: r, .int k b :: q => match j == k, eqCells r q with
    | true, some t => some ((a == b) && t)
    | _, _ => none
  | _, _ => none

def eqOf (EQ : List (TypeId × Nat)) (t : TypeId) (m n : List Value) : Option Bool := match EQ with
  | [] => none
  | (u, z) :: r => match Nat.beq u t && Nat.beq m.length z with
    | true => eqCells m n
    | false => eqOf r t m n

def plainsOf (fr : List AV) : List Operand → Option (List Value)
  | [] => some []
  | x :: r => match ev fr x, plainsOf fr r with
    | .v y, some l => some (y :: l)
    | _, _ => none

def optI (fr : List AV) (o : Option Operand) (d : Int) : Option Int := match o with
  | none => some d
  | some x => match ev fr x with
    | .v (.int _ i) => some i
    | _ => none
/-- Where a part of a row begins. -/
def partA (a : Option Addr) (c l z : Nat) : Option Addr := if c = l then a else a.map (·.add (l * z))
/-- An array's length and its elements' size. -/
def arrOf (P : Program) (t : TypeId) : Option (Nat × Nat) := match prun P (underlying t) with
  | some (.array n e) => match normN (prun P (sizeOf e)) with
    | some z => some (n, z)
    | none => none
  | _ => none
def isBytes (P : Program) (t : TypeId) : Bool := match prun P (underlying t) with
  | some (.slice e) => match prun P (underlying e) with
    | some (.int .u8) => true
    | _ => false
  | _ => false
/-- Bytes in memory. -/
def BytesIn (E : Ext) (s : SlV) (ns : List Int) : Prop := ns.length = s.n ∧ (s.a = none → s.n = 0) ∧ ∀ ad, s.a = some ad → ∀ j m, ns[j]? = some m → E (ad.add j) = some (.int .u8 m)
def ofBytes (ns : List Int) : ByteArray := ns.foldl (fun r n => r.push (UInt8.ofNat n.toNat)) ByteArray.empty

/-- A quiet operation: what it yields, and what has to be shown for it. EQ: the struct types that are compared cell by cell. -/
noncomputable def ay (P : Program) (EQ : List (TypeId × Nat)) (o : Oper) (s : St) (k : AV → Prop) : Prop :=
  match o.op with
  | .move x => k (ev s.fr x)
  | .assign x => k (ev s.fr x)
  | .pick c a b => match ev s.fr c with
    | .v (.bool t) => k (bif t then ev s.fr a else ev s.fr b)
    | _ => False
  | .nilCheck x => match ev s.fr x with
    | .p i j => k (.p i j)
    | .v _ => gen P o s k
  | .fieldAddr t x f => match ev s.fr x with
    | .p i j => match foff P t f with
      | some n => k (.p i (j + n))
      | none => False
    | .v (.pointer (some a)) => match foff P t f with
      | some n => k (.v (.pointer (some (a.add n))))
      | none => False
    | .v _ => gen P o s k
  | .load t x => match ev s.fr x with
    | .p i j => match aload P s.m t i j with
      | some r => k r
      | none => False
    | .v (.pointer (some a)) => eload P s.E t a k
    | _ => False
  | .indexAddr t x ix => match ev s.fr x, ev s.fr ix with
    | .v (.slice (some a) len _), .v (.int _ i) => match esize P t with
      | some n => Side (0 ≤ i ∧ i < len) ∧ k (.v (.pointer (some (a.add (i.toNat * n)))))
      | none => False
    | .p j o, .v (.int _ i) => match arrOf P t with
      | some (len, z) => Side (0 ≤ i ∧ i < len) ∧ k (.p j (o + i.toNat * z))
      | none => False
    | .v (.pointer (some a)), .v (.int _ i) => match arrOf P t with
      | some (len, z) => Side (0 ≤ i ∧ i < len) ∧ k (.v (.pointer (some (a.add (i.toNat * z)))))
      | none => False
    | _, _ => False
  | .slice t x lo hi mx => match mx with
    | some _ => False
    | none => match ev s.fr x with
      | .v (.slice a n c) => match esize P t, optI s.fr lo 0 with
        | some z, some l => match hi with
          | none => Side (0 ≤ l ∧ l ≤ n) ∧ k (.v (.slice (partA a c l.toNat z) (n - l.toNat) (c - l.toNat)))
          | some y => match ev s.fr y with
            | .v (.int _ h) => Side (0 ≤ l ∧ l ≤ h ∧ h ≤ c) ∧ k (.v (.slice (partA a c l.toNat z) (h.toNat - l.toNat) (c - l.toNat)))
            | _ => False
        | _, _ => False
      | .v (.string b) => match isStr P t, optI s.fr lo 0, optI s.fr hi b.size with
        | true, some l, some h => Side (0 ≤ l ∧ l ≤ h ∧ h ≤ b.size) ∧ k (.v (.string (b.extract l.toNat h.toNat)))
        | _, _, _ => False
      | _ => False
  | .convert t t' x => match ev s.fr x with
    | .v (.slice a n c) => match isBytes P t && isStr P t' with
      | true => ∃ ns : List Int, Side (BytesIn s.E ⟨a, n, c⟩ ns) ∧ k (.v (.string (ofBytes ns)))
      | false => False
    | _ => gen P o s k
  | .index t x ix => match ev s.fr x, ev s.fr ix with
    | .v (.string b), .v (.int _ i) => match isStr P t with
      | true => ∃ c, Side (0 ≤ i ∧ b[i.toNat]? = some c) ∧ k (.v (.int .u8 c.toNat))
      | false => False
    | _, _ => False
  | .binOp b t x y _ => match b, ev s.fr x, ev s.fr y with
    | .quo, .v (.int i m), .v (.int j n) => match i == j with
      | true => Side (n ≠ 0) ∧ k (.v (.int i (i.wrap (m.tdiv n))))
      | false => False
    | .rem, .v (.int i m), .v (.int j n) => match i == j with
      | true => Side (n ≠ 0) ∧ k (.v (.int i (m.tmod n)))
      | false => False
    | .add, .v (.string m), .v (.string n) => Side (m.size + n.size ≤ 9223372036854775807) ∧ k (.v (.string (m ++ n)))
    | .eql, .v (.agg m), .v (.agg n) => match eqOf EQ t m.toList n.toList with
      | some r => k (.v (.bool r))
      | none => False
    | .neq, .v (.agg m), .v (.agg n) => match eqOf EQ t m.toList n.toList with
      | some r => k (.v (.bool (!r)))
      | none => False
    | _, _, _ => gen P o s k
  | .build t ps => match parts s.fr ps.toList with
    | some l => match abuild P t l with
      | some cs => k (.v (.agg cs.toArray))
      | none => False
    | none => False
  | .call c => match c.callee with
    | .builtin b => match plainsOf s.fr c.args.toList with
      | some l => match prun P (builtin b c.argTypes o.type (c.args.map fun | .const _ => true | _ => false) l.toArray) with
        | some (.value x) => k (.v x)
        | _ => False
      | none => False
    | _ => False
  | _ => gen P o s k

def isQuiet (o : Oper) : Bool := match o.op with
  | .makeSlice _ _ _ => false
  | .alloc _ => false
  | .box _ _ => false
  | .store _ _ _ => false
  | .buildSlice _ _ _ => false
  | .select _ _ => false
  | .call c => match c.callee with
    | .builtin .append => false
    | .builtin .copy => false
    | .builtin _ => true
    | _ => false
  | _ => true

noncomputable def keepAll (m m' : Mem) (W : List Nat) : Prop := List.rec (motive := fun _ => Prop) True (fun i _ ih => Side (m'[i]? = m[i]?) ∧ ih) W

/-- The number that marks: memory beyond the call's own variables was read. -/
abbrev EF : Nat := 999
def keepE (W : List Nat) (E E' : Ext) : Prop := match W.contains EF with
  | true => Side (Ext.le E E')
  | false => True

/-- A row that is made here. -/
def arow (P : Program) (t : TypeId) (len : Nat) (ps : Array (Nat × Operand)) (fr : List AV) (E : Ext) (k : AV → Ext → Prop) : Prop :=
  match parts fr ps.toList with
  | some l => match abuildS P t len l with
    | some (cs, e) => ∀ r : NewRow E cs e, k (.v (.slice (some ⟨r.b, 0, none⟩) len len)) r.to
    | none => False
  | none => False
/-- A row of a length that is calculated. -/
def amake (P : Program) (t : TypeId) (lo co : AV) (E : Ext) (k : AV → Ext → Prop) : Prop :=
  match lo, co with
  | .v (.int _ len), .v (.int _ cap) => match P.underlying t with
    | some (.slice e) => match P.info? e with
      | some i => match i.zero with
        | some z => match Nat.beq z.cells.toList.length i.size && (Nat.ble 1 i.size && Nat.ble i.bytes 128) with
          | true => Side (0 ≤ len ∧ len ≤ cap ∧ cap ≤ 1099511627776) ∧ ∀ r : NewRow E (zeroRow z.cells.toList cap.toNat) e, k (.v (.slice (some ⟨r.b, 0, none⟩) len.toNat cap.toNat)) r.to
          | false => False
        | none => False
      | none => False
    | _ => False
  | _, _ => False
/-- A write into a row of one's own. -/
def astore (P : Program) (t : TypeId) (ad : Addr) (y : Value) (E : Ext) (k : Ext → Prop) : Prop := match prun P (sizeOf t) with
  | some n => match Nat.beq y.cells.toList.length n && y.cells.toList.all cellOk with
    | true => Side (Owned E ad n) ∧ k (E.upd ad.block ad.off y.cells.toList)
    | false => False
  | none => False
def aapp (P : Program) (ts : List TypeId) (as : List AV) (E : Ext) (k : AV → Ext → Prop) : Prop :=
  match ts, as with
  | [t, t'], [.v (.slice a n c), .v (.slice a' n' c')] => match Nat.beq t t', P.underlying t with
    | true, some (.slice e) => match P.info? e with
      | some i => match i.zero with
        | some z => match Nat.beq z.cells.toList.length i.size && (Nat.ble 1 i.size && Nat.ble i.bytes 128) with
          | true => ∃ y : List Value × List Value, Side (AppPre E e i.size ⟨a, n, c⟩ ⟨a', n', c'⟩ y) ∧ ∀ (r : SlV) (E' : Ext), AppPost E e i.size ⟨a, n, c⟩ ⟨a', n', c'⟩ y r E' → k (.v r.v) E'
          | false => False
        | none => False
      | none => False
    | _, _ => False
  | _, _ => False

/-- What is to be shown for copy: the cells that are copied. -/
structure CopyPre (E : Ext) (sz : Nat) (ad : Addr) (n : Nat) (x : SlV) (y : List Value) : Prop where
  len : y.length = min x.n n * sz
  own : Owned E ad y.length
  none : x.a = none → y = []
  row : ∀ a, x.a = some a → ∀ j v, y[j]? = some v → E (a.add j) = some v
  one : ∀ u ∈ y, cellOk u = true
def acopy (P : Program) (ts : List TypeId) (as : List AV) (E : Ext) (k : AV → Ext → Prop) : Prop :=
  match ts, as with
  | t :: _, [.v (.slice a n _), .v (.slice a' n' c')] => match prun P (underlying t) with
    | some (.slice e) => match normN (prun P (sizeOf e)) with
      | some sz => ∃ y : Addr × List Value, Side (a = some y.1 ∧ CopyPre E sz y.1 n ⟨a', n', c'⟩ y.2) ∧ k (.v (.int .i64 (min n' n : Nat))) (E.upd y.1.block y.1.off y.2)
      | none => False
    | _ => False
  | _, _ => False

noncomputable def aact (P : Program) (T : Tab) (W : List Nat) (o : Oper) (s : St) (K : St → Prop) : Prop :=
  match o.op with
  | .alloc t => match prun P (zeroValue t) with
    | some z => match T.boxed o.dst with
      | true => ∀ r : NewRow s.E z.cells.toList t, K (St.put { s with E := r.to } o.dst (.v (.pointer (some ⟨r.b, 0, none⟩))))
      | false => K ({ s with m := s.m ++ [(z.cells.toList, t)] }.put o.dst (.p s.m.length 0))
    | none => False
  | .box t x => match ev s.fr x with
    | .v y => match T.boxed o.dst with
      | true => ∀ r : NewRow s.E y.cells.toList t, K (St.put { s with E := r.to } o.dst (.v (.pointer (some ⟨r.b, 0, none⟩))))
      | false => K ({ s with m := s.m ++ [(y.cells.toList, t)] }.put o.dst (.p s.m.length 0))
    | _ => False
  | .store t a x => match ev s.fr x with
    | .v y => match ev s.fr a with
      | .p i j => match s.m[i]?, prun P (sizeOf t) with
        | some b, some n => match !W.contains i && (Nat.beq y.cells.toList.length n && (Nat.ble (j + n) b.1.length && y.cells.toList.all cellOk)) with
          | true => K ({ s with m := s.m.set i (setCells b.1 j y.cells.toList, b.2) }.put o.dst (.v undef))
          | false => False
        | _, _ => False
      | .v (.pointer (some ad)) => astore P t ad y s.E fun E' => keepE W s.E E' ∧ K (St.put { s with E := E' } o.dst (.v undef))
      | _ => False
    | .p _ _ => False
  | .buildSlice t n ps => arow P t n ps s.fr s.E fun r E' => K (St.put { s with E := E' } o.dst r)
  | .makeSlice t lo co => amake P t (ev s.fr lo) (ev s.fr co) s.E fun r E' => K (St.put { s with E := E' } o.dst r)
  | .call c => match c.callee with
    | .builtin .copy => acopy P c.argTypes.toList (c.args.toList.map (ev s.fr)) s.E fun r E' => keepE W s.E E' ∧ K (St.put { s with E := E' } o.dst r)
    | .builtin .append => aapp P c.argTypes.toList (c.args.toList.map (ev s.fr)) s.E fun r E' => K (St.put { s with E := E' } o.dst r)
    | .value f => match ev s.fr f with
      | .v (.func (.func g) first captured) => match T.find g with
        | some sp => sp.f (first.toList.map .v ++ c.args.toList.map (ev s.fr) ++ captured.toList.map .v) s.m s.E fun r m' E' =>
            keepAll s.m m' W ∧ keepE W s.E E' ∧ K (St.put { s with m := m', E := E' } o.dst r)
        | none => False
      | _ => False
    | _ => False
  | _ => False

noncomputable def aop (P : Program) (EQ : List (TypeId × Nat)) (T : Tab) (W : List Nat) (o : Oper) (s : St) (K : St → Prop) : Prop :=
  match isQuiet o with
  | true => ay P EQ o s fun r => K (s.put o.dst r)
  | false => aact P T W o s K

def aboolAt (fr : List AV) (t : Tmp) : Option Bool := match fr[t]? with
  | some (.v (.bool b)) => some b
  | _ => none
def ayielded (ops : Array Oper) (fr : List AV) (j : Nat) : Option Bool :=
  match (ops[j]?).bind (·.dst) with
  | some t => aboolAt fr t
  | none => none

noncomputable def aopAt (P : Program) (EQ : List (TypeId × Nat)) (T : Tab) (W : List Nat) (ops : Array Oper) (o : Oper) (s : St) (K : St → Prop) : Prop :=
  if Region.wanted o (ayielded ops s.fr) then aop P EQ T W o s K else K (s.put o.dst (.v undef))

/-- A guard: both ways, each with what the guard's test then holds. -/
def eguard (ops : Array Oper) (o : Oper) (s : St) (A B : St → Prop) : Prop := match o.guard with
  | none => A s
  | some (j, want) => match (ops[j]?).bind (·.dst) with
    | some t => match aboolAt s.fr t with
      | some b => match want with
        | true => (b = true → A (s.put (some t) (.v (.bool true)))) ∧ (b = false → B (s.put (some t) (.v (.bool false))))
        | false => (b = false → A (s.put (some t) (.v (.bool false)))) ∧ (b = true → B (s.put (some t) (.v (.bool true))))
      | none => B s
    | none => B s

noncomputable def eopAt (P : Program) (EQ : List (TypeId × Nat)) (T : Tab) (W : List Nat) (ops : Array Oper) (o : Oper) (s : St) (K : St → Prop) : Prop :=
  eguard ops o s (fun s' => aop P EQ T W o s' K) (fun s' => K (s'.put o.dst (.v undef)))

noncomputable def aops (P : Program) (EQ : List (TypeId × Nat)) (T : Tab) (ops : Array Oper) : List Oper → St → (St → Prop) → Prop
  | [], s, K => K s
  | o :: r, s, K => eopAt P EQ T [] ops o s fun s' => aops P EQ T ops r s' K

/-- The variable that a load reads. -/
def wid (o : Oper) (fr : List AV) : Option Nat := match o.op with
  | .load _ x => match ev fr x with
    | .p j _ => some j
    | .v _ => none
  | _ => none
/-- Memory beyond the call's own variables is read. -/
def rdE (o : Oper) (fr : List AV) : Bool := match o.op with
  | .load _ x => match ev fr x with
    | .p _ _ => false
    | .v _ => true
  | .convert _ _ x => match ev fr x with
    | .v (.slice _ _ _) => true
    | _ => false
  | _ => false
def watch (o : Oper) (fr : List AV) (W : List Nat) : List Nat := match wid o fr with
  | some j => j :: W
  | none => match rdE o fr with
    | true => EF :: W
    | false => W

/-- The order in which a region that draws is gone through: an operation that is taken first, or all that may come up. -/
inductive Sched where
  | done
  | take (i : Nat) (r : Sched)
  | fork (l : List (Nat × Sched))

mutual
noncomputable def asched (P : Program) (EQ : List (TypeId × Nat)) (T : Tab) (ops : Array Oper) : Sched → List Nat → St → (St → Prop) → Prop
  | .done, _, s, K => K s
  | .take i r, W, s, K => match ops[i]? with
    | some o => match isQuiet o with
      | true => eguard ops o s (fun s' => ay P EQ o s' fun a => asched P EQ T ops r (watch o s'.fr W) (s'.put o.dst a) K) (fun s' => asched P EQ T ops r W (s'.put o.dst (.v undef)) K)
      | false => False
    | none => False
  | .fork l, W, s, K => aforks P EQ T ops l W s K
noncomputable def aforks (P : Program) (EQ : List (TypeId × Nat)) (T : Tab) (ops : Array Oper) : List (Nat × Sched) → List Nat → St → (St → Prop) → Prop
  | [], _, _, _ => True
  | (i, r) :: l, W, s, K => (match ops[i]? with
      | some o => eopAt P EQ T W ops o s fun s' => asched P EQ T ops r W s' K
      | none => False) ∧ aforks P EQ T ops l W s K
end

abbrev AQ := Exit → St → Prop
def AQ.then (next : St → Prop) (Q : AQ) : AQ
  | .normal, s => next s
  | e, s => Q e s
def AQ.inBlock (id : Nat) (Q : AQ) : AQ
  | .exit j, s => match Nat.beq j id with
    | true => Q .normal s
    | false => Q (.exit j) s
  | e, s => Q e s

mutual
def schedOk (ops : Array Oper) : Sched → Array Bool → Bool
  | .done, l => (Region.ready .any ops l).isEmpty
  | .take i r, l => (Region.ready .any ops l).contains i && Region.free .any ops l i && schedOk ops r (l.setIfInBounds i true)
  | .fork fs, l => !fs.isEmpty && (Region.ready .any ops l).all (fun i => fs.any fun f => f.1 == i) && forksOk ops fs l
def forksOk (ops : Array Oper) : List (Nat × Sched) → Array Bool → Bool
  | [], _ => true
  | (i, r) :: fs, l => (Region.ready .any ops l).contains i && schedOk ops r (l.setIfInBounds i true) && forksOk ops fs l
end

mutual
def Sched.depth : Sched → Nat
  | .done => 0
  | .take _ r => r.depth + 1
  | .fork fs => depths fs + 1
def depths : List (Nat × Sched) → Nat
  | [] => 0
  | (_, r) :: fs => max r.depth (depths fs)
end
def regionOk (ops : Array Oper) (S : Sched) : Bool := schedOk ops S (Array.replicate ops.size false) && decide (S.depth ≤ ops.size)

def schedOf : List (Nat × Sched) → Nat → Sched
  | [], _ => .done
  | (i, s) :: r, j => match Nat.beq i j with
    | true => s
    | false => schedOf r j

/-- Every drawing region's schedule fits. -/
def codeOk (D : List (Nat × Sched)) : Code → Bool
  | .region id ops true => regionOk ops (schedOf D id)
  | .seq a b => codeOk D a && codeOk D b
  | .cond _ a b => codeOk D a && codeOk D b
  | .block _ c => codeOk D c
  | .loop c => codeOk D c
  | _ => true

/-- Variables that a loop's round has made are forgotten behind it: pointers to them are values of which nothing is known. -/
def cut1 (k : Nat) (x : Value) (a : AV) : AV := match a with
  | .v y => .v y
  | .p i o => match Nat.ble k i with
    | false => .p i o
    | true => .v x
noncomputable def cutL (k : Nat) (g : Nat → Value) (l : List AV) : Nat → (List AV → Prop) → Prop :=
  List.rec (motive := fun _ => Nat → (List AV → Prop) → Prop) (fun _ c => c []) (fun a _ ih n c => ih n.succ fun r => c (cut1 k (g n) a :: r)) l
noncomputable def trimF (k : Nat) (l : List AV) (c : List AV → Prop) : Prop := ∀ g : Nat → Value, cutL k g l 0 c
noncomputable def trim (k : Nat) (s : St) (c : St → Prop) : Prop := match s with
  | ⟨fr, m, E⟩ => match Nat.beq m.length k with
    | true => c ⟨fr, m, E⟩
    | false => trimF k fr fun fr' => c ⟨fr', m.take k, E⟩
theorem cutL_mono {k : Nat} {g : Nat → Value} : ∀ {l : List AV} {n : Nat} {c c' : List AV → Prop}, (∀ l, c l → c' l) → cutL k g l n c → cutL k g l n c'
  | [], _, _, _, hc, h => hc _ h
  | a :: r, n, c, c', hc, h => cutL_mono (l := r) (n := n.succ) (c := fun r => c (cut1 k (g n) a :: r)) (c' := fun r => c' (cut1 k (g n) a :: r)) (fun _ h => hc _ h) h
theorem trimF_mono {k : Nat} {l : List AV} {c c' : List AV → Prop} (hc : ∀ l, c l → c' l) (h : trimF k l c) : trimF k l c' := fun g => cutL_mono hc (h g)
theorem trim_mono {k : Nat} {s : St} {c c' : St → Prop} (hc : ∀ s, c s → c' s) (h : trim k s c) : trim k s c' := by
  obtain ⟨fr, m, E⟩ := s
  unfold trim at h ⊢
  dsimp only at h ⊢
  cases hb : Nat.beq m.length k with
  | true => rw [hb] at h; exact hc _ h
  | false => rw [hb] at h; exact trimF_mono (fun _ h => hc _ h) h
theorem cutL_out {k : Nat} {g : Nat → Value} : ∀ {l : List AV} {n : Nat} {c : List AV → Prop}, cutL k g l n c → ∃ l', c l' ∧ l'.length = l.length ∧ ∀ (i : Nat) (a' : AV), l'[i]? = some a' → ∃ a, l[i]? = some a ∧ ((a' = a ∧ ∀ j o, a = .p j o → j < k) ∨ (a' = .v (g (n + i)) ∧ ∃ j o, a = .p j o))
  | [], n, c, h => ⟨[], h, rfl, fun i a hi => by cases hi⟩
  | a :: r, n, c, h => by
    obtain ⟨l', h1, h2, h3⟩ := cutL_out (l := r) (n := n.succ) (c := fun r => c (cut1 k (g n) a :: r)) h
    refine ⟨cut1 k (g n) a :: l', h1, by simp [h2], fun i a' hi => ?_⟩
    cases i with
    | succ i =>
      obtain ⟨b, hb, hc⟩ := h3 i a' hi
      refine ⟨b, hb, ?_⟩
      rw [show n + (i + 1) = n.succ + i by omega]
      exact hc
    | zero =>
      have hi : cut1 k (g n) a = a' := Option.some.inj hi
      subst hi
      refine ⟨a, rfl, ?_⟩
      cases a with
      | v y => exact .inl ⟨rfl, fun j o e => by cases e⟩
      | p j o =>
        unfold cut1
        dsimp only
        cases hb : Nat.ble k j with
        | false => exact .inl ⟨rfl, fun j' o' e => by cases e; exact Nat.lt_of_not_le fun hle => by rw [Nat.ble_eq_true_of_le hle] at hb; cases hb⟩
        | true => exact .inr ⟨rfl, j, o, rfl⟩
theorem trimF_out {k : Nat} {l : List AV} {c : List AV → Prop} (g : Nat → Value) (h : trimF k l c) : ∃ l', c l' ∧ l'.length = l.length ∧ ∀ (i : Nat) (a' : AV), l'[i]? = some a' → ∃ a, l[i]? = some a ∧ ((a' = a ∧ ∀ j o, a = .p j o → j < k) ∨ (a' = .v (g i) ∧ ∃ j o, a = .p j o)) := by
  obtain ⟨l', h1, h2, h3⟩ := cutL_out (h g)
  refine ⟨l', h1, h2, fun i a' hi => ?_⟩
  obtain ⟨a, ha, hc⟩ := h3 i a' hi
  rw [Nat.zero_add] at hc
  exact ⟨a, ha, hc⟩

/-- The code's weakest precondition. D: the drawing regions' schedules. -/
noncomputable def aw (P : Program) (EQ : List (TypeId × Nat)) (T : Tab) (D : List (Nat × Sched)) : Code → AQ → St → Prop
  | .skip, Q, s => Q .normal s
  | .region id ops draw, Q, s => match draw with
    | false => aops P EQ T ops ops.toList s (Q .normal)
    | true => asched P EQ T ops (schedOf D id) [] s (Q .normal)
  | .seq a b, Q, s => aw P EQ T D a (AQ.then (fun s' => aw P EQ T D b Q s') Q) s
  | .cond c x y, Q, s => match ev s.fr c with
    | .v (.bool t) => (t = true → aw P EQ T D x Q s) ∧ (t = false → aw P EQ T D y Q s)
    | _ => False
  | .block id c, Q, s => aw P EQ T D c (AQ.inBlock id Q) s
  | .loop c, Q, s => ∃ I : Nat → St → Prop, (∃ n, I n s) ∧ ∀ n s', I n s' → aw P EQ T D c (AQ.then (fun s'' => trim s.m.length s'' fun s3 => ∃ n', n' < n ∧ I n' s3) Q) s'
  | .exit id, Q, s => Q (.exit id) s
  | .label _, Q, s => Q .normal s
  | .ret, Q, s => Q .ret s
  | _, _, _ => False

def ares1 (P : Program) (s : St) : ResultVar → Option AV
  | .tmp t => some (s.fr.getD t (.v undef))
  | .cell a t => match s.fr.getD a (.v undef) with
    | .p i k => aload P s.m t i k
    | _ => none
def aresL (P : Program) (s : St) : List ResultVar → Option (List Value)
  | [] => some []
  | r :: l => match ares1 P s r with
    | some (.v x) => match aresL P s l with
      | some xs => some (x :: xs)
      | none => none
    | _ => none
def ares (P : Program) (fn : Func) (s : St) : Option AV :=
  match fn.results.toList with
  | [r] => ares1 P s r
  | l => match aresL P s l with
    | some vs => some (.v (.tuple vs.toArray))
    | none => none

noncomputable def fin1 (P : Program) (fn : Func) (K : Kont) (s : St) : Prop := match ares P fn s with
  | some r => force r fun r' => K r' s.m s.E
  | none => False
noncomputable def fin (P : Program) (fn : Func) (K : Kont) : AQ
  | .normal, s => fin1 P fn K s
  | .ret, s => fin1 P fn K s
  | _, _ => False
def GT : List (Nat × (Array Value → Prop)) := []
def dLe (a b : Nat) : Prop := a ≤ b
theorem dLe_of {a b : Nat} (h : a ≤ b) : dLe a b := h
theorem dLe_refl (a : Nat) : dLe a a := dLe_of (Nat.le_refl _)
theorem dLe_trans {a b c : Nat} (h : dLe a b) (k : dLe b c) : dLe a c := Nat.le_trans h k

end Go.Proofs.Ytjibkphhlflpeaa.Ab

namespace Go.Proofs.Ytjibkphhlflpeaa.Ab
variable {P : Program}

theorem prun_run {α : Type} {w : World} : ∀ (s : Sem α) (x : α), prun P s = some x → s.run P w = .ok x w
  | .pure a, x, h => by simp only [prun, Option.some.injEq] at h; subst h; rfl
  | .program k, x, h => by simp only [prun] at h; simp only [Sem.run]; exact prun_run _ x h
  | .mark _ k, x, h => by simp only [prun] at h; simp only [Sem.run]; exact prun_run _ x h
  | .load _ _ _, x, h => by simp [prun] at h
  | .store _ _ _ _, x, h => by simp [prun] at h
  | .new _ _, x, h => by simp [prun] at h
  | .shape _ _, x, h => by simp [prun] at h
  | .freeze _ _ _, x, h => by simp [prun] at h
  | .frozen _ _, x, h => by simp [prun] at h
  | .getObj _ _, x, h => by simp [prun] at h
  | .setObj _ _ _, x, h => by simp [prun] at h
  | .choose _ _, x, h => by simp [prun] at h
  | .sys _ _, x, h => by simp [prun] at h
  | .halt _, x, h => by simp [prun] at h

theorem prun_none {α : Type} {s : Sem α} {x : α} (h : prun P s = some x) (w : World) : s.run P w = .ok x w := prun_run s x h

theorem force1_out {v : Value} {k : Value → Prop} (h : force1 v k) : k v := by
  unfold force1 at h
  split at h <;> exact h
theorem forceL_out : ∀ {l : List Value} {k : List Value → Prop}, forceL l k → k l
  | [], _, h => h
  | v :: r, k, h => forceL_out (l := r) (k := fun r' => k (v :: r')) (force1_out (k := fun v' => forceL r fun r' => k (v' :: r')) h)
theorem force2_out {v : Value} {k : Value → Prop} (h : force2 v k) : k v := by
  unfold force2 at h
  split at h
  · have := forceL_out h; simpa using this
  · exact force1_out h
theorem forceM_out : ∀ {l : List Value} {k : List Value → Prop}, forceM l k → k l
  | [], _, h => h
  | v :: r, k, h => forceM_out (l := r) (k := fun r' => k (v :: r')) (force2_out (k := fun v' => forceM r fun r' => k (v' :: r')) h)
theorem force3_out {v : Value} {k : Value → Prop} (h : force3 v k) : k v := by
  unfold force3 at h
  split at h
  · have := forceM_out h; simpa using this
  · exact force2_out h
theorem force_out {a : AV} {k : AV → Prop} (h : force a k) : k a := by
  unfold force at h
  split at h
  · exact force3_out h
  · exact forceN_iff.1 (forceN_iff.1 h)

/-! ### values and frames -/
def Conc (β : List Nat) : AV → Value → Prop
  | .v x, y => y = x
  | .p i o, y => ∃ b, β[i]? = some b ∧ y = .pointer (some ⟨b, o, none⟩)

theorem Conc.mono {β γ : List Nat} {a : AV} {y : Value} (h : Conc β a y) : Conc (β ++ γ) a y := by
  cases a with
  | v x => exact h
  | p i o =>
    obtain ⟨b, hb, hy⟩ := h
    exact ⟨b, by rw [List.getElem?_append_left (List.getElem?_eq_some_iff.1 hb).1]; exact hb, hy⟩

def CF (β : List Nat) (fr : List AV) (ts : Array Value) : Prop :=
  ts.size = fr.length ∧ ∀ (i : Nat) (a : AV), fr[i]? = some a → ∃ x, ts[i]? = some x ∧ Conc β a x

theorem CF.mono {β γ : List Nat} {fr : List AV} {ts : Array Value} (h : CF β fr ts) : CF (β ++ γ) fr ts :=
  ⟨h.1, fun i a ha => let ⟨x, hx, hc⟩ := h.2 i a ha; ⟨x, hx, hc.mono⟩⟩

theorem CF.set {β : List Nat} {fr : List AV} {ts : Array Value} (h : CF β fr ts) {a : AV} {x : Value} (hc : Conc β a x) (d : Nat) :
    CF β (fr.set d a) (ts.setIfInBounds d x) := by
  refine ⟨by simp [h.1], fun i b hb => ?_⟩
  by_cases hdi : d = i
  · subst hdi
    by_cases hl : d < fr.length
    · rw [List.getElem?_set_self hl] at hb
      cases hb
      exact ⟨x, by rw [Array.getElem?_setIfInBounds_self]; simp [h.1, hl], hc⟩
    · rw [List.getElem?_eq_none (by simp; omega)] at hb
      cases hb
  · rw [List.getElem?_set_ne hdi] at hb
    obtain ⟨y, hy, hcy⟩ := h.2 i b hb
    exact ⟨y, by rw [Array.getElem?_setIfInBounds_ne hdi]; exact hy, hcy⟩

theorem CF.put {β : List Nat} {s : St} {a : Act} (h : CF β s.fr a.tmps) {r : AV} {x : Value} (hc : Conc β r x) (d : Option Tmp) :
    CF β (s.put d r).fr (a.put d x).tmps := by
  cases d with
  | none => exact h
  | some d => exact h.set hc d

theorem CF.getD {β : List Nat} {fr : List AV} {ts : Array Value} (h : CF β fr ts) (t : Nat) : Conc β (fr.getD t (.v undef)) (ts.getD t undef) := by
  rw [List.getD_eq_getElem?_getD, Array.getD_eq_getD_getElem?]
  cases hf : fr[t]? with
  | some a =>
    obtain ⟨x, hx, hc⟩ := h.2 t a hf
    rw [hx]; exact hc
  | none =>
    have : ts[t]? = none := by
      rw [List.getElem?_eq_none_iff] at hf
      exact Array.getElem?_eq_none_iff.2 (by rw [h.1]; exact hf)
    rw [this]; rfl

theorem CF.ev {β : List Nat} {fr : List AV} {a : Act} (h : CF β fr a.tmps) (x : Operand) : Conc β (ev fr x) (a.eval x) := by
  cases x with
  | tmp t => exact h.getD t
  | const v => rfl
  | global g => rfl
  | func f => rfl

theorem CF.bool {β : List Nat} {fr : List AV} {ts : Array Value} (h : CF β fr ts) (t : Nat) :
    aboolAt fr t = (match ts[t]? with | some (.bool b) => some b | _ => none) := by
  unfold aboolAt
  cases hf : fr[t]? with
  | none =>
    have : ts[t]? = none := by
      rw [List.getElem?_eq_none_iff] at hf
      exact Array.getElem?_eq_none_iff.2 (by rw [h.1]; exact hf)
    rw [this]
  | some a =>
    obtain ⟨x, hx, hc⟩ := h.2 t a hf
    rw [hx]
    cases a with
    | v u =>
      have hc' : x = u := hc
      subst hc'
      cases x <;> rfl
    | p i o => obtain ⟨b, _, rfl⟩ := hc; rfl

theorem CF.yielded {β : List Nat} {fr : List AV} {ts : Array Value} (h : CF β fr ts) (ops : Array Oper) : ayielded ops fr = yielded ops ts := by
  funext j
  unfold ayielded Go.yielded
  cases (ops[j]?).bind (·.dst) with
  | none => rfl
  | some t => simp only [Option.bind_some]; exact h.bool t

/-! ### memory -/
/-- What is known of the package-level variables, and that no run writes them. -/
def Holds (w : World) (β : List Nat) (E : Ext) : Prop := ∀ x ∈ GT, (∃ cs t fz, w.heap[x.1]? = some (Obj.cells cs t fz) ∧ x.2 cs) ∧ x.1 ∉ β ∧ E.own x.1 = none
theorem Holds.shut {w : World} {β γ : List Nat} {E : Ext} (h : Holds w β E) (hs : ∀ b ∈ γ, b ∈ β) : Holds w γ E.shut := fun x hx => ⟨(h x hx).1, fun hm => (h x hx).2.1 (hs _ hm), rfl⟩
theorem Holds.any {w : World} {β : List Nat} {E : Ext} (h : Holds w β E) : Holds w [] E := fun x hx => ⟨(h x hx).1, by simp, (h x hx).2.2⟩
structure Rel (w0 : World) (β0 : List Nat) (E0 : Ext) (β : List Nat) (m : Mem) (E : Ext) (w : World) : Prop where
  ge : ∀ a v, E0.own a.block = none → E0 a = some v → E a = some v
  os : w.os = w0.os
  tape : w.tape = w0.tape
  output : w.output = w0.output ∧ dLe w0.drawn w.drawn
  size : w0.heap.size ≤ w.heap.size
  old : ∀ k, k < w0.heap.size → k ∉ β0 → E0.own k = none → w.heap[k]? = w0.heap[k]?
  pre : ∃ γ, β = β0 ++ γ ∧ ∀ b ∈ γ, w0.heap.size ≤ b
  nodup : β.Nodup
  len : β.length = m.length
  blk : ∀ (i b : Nat) (c : Blk), β[i]? = some b → m[i]? = some c → w.heap[b]? = some (Obj.cells c.1.toArray c.2 (0, 0))
  ext : ∀ a v, E a = some v → w.cell? a = some v ∧ a.block ∉ β
  dom : ∀ a v, E0 a = some v → a.block < w0.heap.size
  le0 : ∀ a v, E a = some v → a.block < w0.heap.size → E0.own a.block = none → E0 a = some v
  own : ∀ b p, E.own b = some p → (w0.heap.size ≤ b ∨ (E0.own b).isSome) ∧ b ∉ β ∧ ∃ cur : Array Value, w.heap[b]? = some (Obj.cells cur p.2 (0, 0)) ∧ cur.size = p.1
  glob : Holds w0 β0 E0

theorem Rel.lt {w0 w : World} {β0 β : List Nat} {m : Mem} {E0 E : Ext} (h : Rel w0 β0 E0 β m E w) {b : Nat} (hb : b ∈ β) : b < w.heap.size := by
  obtain ⟨i, hi⟩ := List.mem_iff_getElem?.1 hb
  have hl := (List.getElem?_eq_some_iff.1 hi).1
  rw [h.len] at hl
  have := h.blk i b _ hi (List.getElem?_eq_getElem hl)
  exact (Array.getElem?_eq_some_iff.1 this).1

theorem cell_lt {w : World} {a : Addr} {v : Value} (h : w.cell? a = some v) : a.block < w.heap.size := by
  unfold World.cell? at h
  cases hb : w.heap[a.block]? with
  | none => rw [hb] at h; cases h
  | some o => exact (Array.getElem?_eq_some_iff.1 hb).1

theorem Rel.drew {w0 w : World} {β0 β : List Nat} {m : Mem} {E0 E : Ext} (h : Rel w0 β0 E0 β m E w) (n : Nat) (hn : w.drawn ≤ n) : Rel w0 β0 E0 β m E { w with drawn := n } :=
  ⟨h.ge, h.os, h.tape, ⟨h.output.1, dLe_trans h.output.2 (dLe_of hn)⟩, h.size, h.old, h.pre, h.nodup, h.len, h.blk, fun a v ha => ⟨(h.ext a v ha).1, (h.ext a v ha).2⟩, h.dom, h.le0, h.own, h.glob⟩
theorem Rel.own_lt {w0 w : World} {β0 β : List Nat} {m : Mem} {E0 E : Ext} (h : Rel w0 β0 E0 β m E w) {b : Nat} {p : Nat × TypeId} (hb : E.own b = some p) : b < w.heap.size := by
  obtain ⟨_, _, cur, hc, _⟩ := h.own b p hb
  exact (Array.getElem?_eq_some_iff.1 hc).1
theorem Rel.holds {w0 w : World} {β0 β : List Nat} {m : Mem} {E0 E : Ext} (h : Rel w0 β0 E0 β m E w) : Holds w β E := fun x hx => by
  obtain ⟨⟨cs, t, fz, h1, h2⟩, h3, h4⟩ := h.glob x hx
  have hl : x.1 < w0.heap.size := (Array.getElem?_eq_some_iff.1 h1).1
  refine ⟨⟨cs, t, fz, (h.old _ hl h3 h4).trans h1, h2⟩, fun hm => ?_, ?_⟩
  · obtain ⟨γ, hγ, hb⟩ := h.pre
    rw [hγ] at hm
    rcases List.mem_append.1 hm with hm | hm
    · exact h3 hm
    · have := hb _ hm; omega
  · cases ho : E.own x.1 with
    | none => rfl
    | some p =>
      rcases (h.own _ p ho).1 with h5 | h5
      · omega
      · rw [h4] at h5; cases h5
theorem Rel.self {w0 w : World} {β0 β : List Nat} {m : Mem} {E0 E : Ext} (h : Rel w0 β0 E0 β m E w) : Rel w β E β m E w :=
  ⟨fun _ _ _ h => h, rfl, rfl, ⟨rfl, dLe_refl _⟩, Nat.le_refl _, fun _ _ _ _ => rfl, ⟨[], by simp, by simp⟩, h.nodup, h.len, h.blk, h.ext, fun a v ha => cell_lt (h.ext a v ha).1, fun a v ha _ _ => ha, fun b p hb => ⟨.inr (by rw [hb]; rfl), (h.own b p hb).2⟩, h.holds⟩
/-- What is the run's own stays so beside the first world. -/
theorem Rel.own_none {w0 w : World} {β0 β : List Nat} {m : Mem} {E0 E : Ext} (h : Rel w0 β0 E0 β m E w) {k : Nat} (hk : k < w0.heap.size) (h0 : E0.own k = none) : E.own k = none := by
  cases ho : E.own k with
  | none => rfl
  | some p =>
    rcases (h.own k p ho).1 with h1 | h1
    · omega
    · rw [h0] at h1; cases h1

theorem cell_of_block {w w' : World} {a : Addr} (h : w'.heap[a.block]? = w.heap[a.block]?) : w'.cell? a = w.cell? a := by simp [World.cell?, h]

theorem Rel.push {w0 w : World} {β0 β : List Nat} {m : Mem} {E0 E : Ext} (h : Rel w0 β0 E0 β m E w) (cs : List Value) (t : TypeId) :
    Rel w0 β0 E0 (β ++ [w.heap.size]) (m ++ [(cs, t)]) E { w with heap := w.heap.push (.cells cs.toArray t (0, 0)) } := by
  have hpush : ∀ k, k < w.heap.size → (w.heap.push (Obj.cells cs.toArray t (0, 0)))[k]? = w.heap[k]? := fun k hk => by
    rw [Array.getElem?_push, if_neg (by omega)]
  refine ⟨h.ge, h.os, h.tape, h.output, by simp; have := h.size; omega, fun k hk hn ho => ?_, ?_, ?_, by simp [h.len], fun i b c hi hc => ?_, fun a v ha => ?_, h.dom, h.le0, fun b p hb => ?_, h.glob⟩
  · show (w.heap.push _)[k]? = _
    rw [hpush k (Nat.lt_of_lt_of_le hk h.size)]
    exact h.old k hk hn ho
  · obtain ⟨γ, hγ, hb⟩ := h.pre
    refine ⟨γ ++ [w.heap.size], by rw [hγ, List.append_assoc], fun b hb' => ?_⟩
    rcases List.mem_append.1 hb' with hb' | hb'
    · exact hb b hb'
    · rw [List.mem_singleton.1 hb']; exact h.size
  · refine List.nodup_append.2 ⟨h.nodup, by simp, fun x hx y hy => ?_⟩
    rw [List.mem_singleton.1 hy]
    have := h.lt hx
    omega
  · show (w.heap.push _)[b]? = _
    by_cases hl : i < β.length
    · rw [List.getElem?_append_left hl] at hi
      rw [List.getElem?_append_left (by rw [← h.len]; exact hl)] at hc
      rw [hpush b (h.lt (List.mem_of_getElem? hi))]
      exact h.blk i b c hi hc
    · have hlen := h.len
      have hi' : i = β.length := by
        have := (List.getElem?_eq_some_iff.1 hi).1
        simp at this
        omega
      subst hi'
      rw [List.getElem?_append_right (Nat.le_refl _)] at hi
      rw [hlen, List.getElem?_append_right (Nat.le_refl _)] at hc
      simp at hi hc
      subst hi hc
      simp
  · obtain ⟨hc, hn⟩ := h.ext a v ha
    have hl := cell_lt hc
    refine ⟨?_, fun hm => ?_⟩
    · rw [← hc]; exact cell_of_block (hpush _ hl)
    · rcases List.mem_append.1 hm with hm | hm
      · exact hn hm
      · have := List.mem_singleton.1 hm; omega
  · obtain ⟨h1, h2, cur, h3, h4⟩ := h.own b p hb
    have hl := h.own_lt hb
    refine ⟨h1, fun hm => ?_, cur, (hpush b hl).trans h3, h4⟩
    rcases List.mem_append.1 hm with hm | hm
    · exact h2 hm
    · have := List.mem_singleton.1 hm; omega

theorem addr_add (b k j : Nat) : (Addr.add ⟨b, k, none⟩ j) = ⟨b, k + j, none⟩ := by
  unfold Addr.add
  split
  · subst_vars; rfl
  · rfl

theorem cell_at {w : World} {b : Nat} {cs : List Value} {t : TypeId} (hb : w.heap[b]? = some (Obj.cells cs.toArray t (0, 0))) (k : Nat) : w.cell? ⟨b, k, none⟩ = cs[k]? := by
  unfold World.cell?
  simp [hb]

theorem run_loads {w : World} {b : Nat} {cs : List Value} {t : TypeId} (hb : w.heap[b]? = some (Obj.cells cs.toArray t (0, 0))) (k n : Nat) (hn : k + n ≤ cs.length) :
    (loadCells ⟨b, k, none⟩ n).run P w = .ok ((cs.drop k).take n).toArray w := by
  have hlen : ((cs.drop k).take n).length = n := by simp; omega
  have := run_loadCells_list (P := P) (w := w) ⟨b, k, none⟩ ((cs.drop k).take n) (fun j v hj => by
    have hjl : j < n := by have := (List.getElem?_eq_some_iff.1 hj).1; omega
    rw [addr_add, cell_at hb]
    rw [List.getElem?_take_of_lt hjl, List.getElem?_drop] at hj
    exact hj)
  rw [hlen] at this
  exact this

theorem setCells_length : ∀ (vs cs : List Value) (k : Nat), (setCells cs k vs).length = cs.length
  | [], cs, k => rfl
  | v :: r, cs, k => by simp only [setCells]; rw [setCells_length r]; simp

theorem run_stores {b : Nat} {t : TypeId} : ∀ (vs : List Value) (cs : List Value) (i k : Nat) (w : World), w.heap[b]? = some (Obj.cells cs.toArray t (0, 0)) → k + i + vs.length ≤ cs.length → vs.all cellOk = true →
    ∃ w', (storeCells ⟨b, k, none⟩ vs i).run P w = .ok () w' ∧ w'.os = w.os ∧ w'.tape = w.tape ∧ (w'.output = w.output ∧ w.drawn ≤ w'.drawn) ∧ w'.heap.size = w.heap.size ∧
      w'.heap[b]? = some (Obj.cells (setCells cs (k + i) vs).toArray t (0, 0)) ∧ ∀ j, j ≠ b → w'.heap[j]? = w.heap[j]?
  | [], cs, i, k, w, hb, _, _ => ⟨w, by simp [storeCells], rfl, rfl, ⟨rfl, Nat.le_refl _⟩, rfl, hb, fun _ _ => rfl⟩
  | v :: r, cs, i, k, w, hb, hl, ho => by
    simp only [List.length_cons, List.all_cons, Bool.and_eq_true] at hl ho
    have hc : w.cell? ⟨b, k + i, none⟩ = cs[k + i]? := cell_at hb _
    have hlt : k + i < cs.length := by omega
    rw [List.getElem?_eq_getElem hlt] at hc
    have hf : w.frozen? ⟨b, k + i, none⟩ = false := by simp [World.frozen?, hb]
    have hv : v.oneCell' = true := by cases v <;> simp_all [cellOk, Value.oneCell']
    have hst : (store ⟨b, k + i, none⟩ v).run P w = .ok () (w.setCell ⟨b, k + i, none⟩ v) := by
      rw [run_store P w _ v .plain hv, hc]
      simp [hf]
    have hw1 : (w.setCell ⟨b, k + i, none⟩ v).heap[b]? = some (.cells (cs.set (k + i) v).toArray t (0, 0)) := by
      simp [World.setCell, Array.getElem?_modify, hb]
    obtain ⟨w', h1, h2, h3, h4, h5, h6, h7⟩ := run_stores r (cs.set (k + i) v) (i + 1) k (w.setCell ⟨b, k + i, none⟩ v) hw1 (by simp; omega) ho.2
    refine ⟨w', ?_, h2, h3, h4, by rw [h5]; simp [World.setCell], by rw [h6]; simp only [setCells]; rw [Nat.add_assoc], fun j hj => ?_⟩
    · simp only [storeCells, Sem.run_bind]
      rw [addr_add, hst]
      exact h1
    · rw [h7 j hj]
      simp only [World.setCell, Array.getElem?_modify]
      rw [if_neg (by omega)]

theorem Rel.store {w0 w w' : World} {β0 β : List Nat} {m : Mem} {E0 E : Ext} (h : Rel w0 β0 E0 β m E w) {i b : Nat} {c c' : List Value} {t : TypeId} (hi : β[i]? = some b) (hc : m[i]? = some (c, t))
    (h2 : w'.os = w.os) (h3 : w'.tape = w.tape) (h4 : w'.output = w.output ∧ w.drawn ≤ w'.drawn) (h5 : w'.heap.size = w.heap.size) (h6 : w'.heap[b]? = some (Obj.cells c'.toArray t (0, 0))) (h7 : ∀ j, j ≠ b → w'.heap[j]? = w.heap[j]?) :
    Rel w0 β0 E0 β (m.set i (c', t)) E w' := by
  refine ⟨h.ge, h2.trans h.os, h3.trans h.tape, ⟨h4.1.trans h.output.1, dLe_trans h.output.2 (dLe_of h4.2)⟩, by rw [h5]; exact h.size, fun k hk hn ho => ?_, h.pre, h.nodup, by simp [h.len], fun j b' c2 hj hc2 => ?_, fun a v ha => ?_, h.dom, h.le0, fun b' p hb' => ?_, h.glob⟩
  · have hne : k ≠ b := by
      rintro rfl
      have hm := List.mem_of_getElem? hi
      obtain ⟨γ, hγ, hb⟩ := h.pre
      rw [hγ] at hm
      rcases List.mem_append.1 hm with hm | hm
      · exact hn hm
      · have := hb _ hm; omega
    rw [h7 k hne]; exact h.old k hk hn ho
  · by_cases hij : i = j
    · subst hij
      rw [hi] at hj
      cases hj
      rw [List.getElem?_set_self (List.getElem?_eq_some_iff.1 hc).1] at hc2
      cases hc2
      exact h6
    · rw [List.getElem?_set_ne hij] at hc2
      have hne : b' ≠ b := fun e => by
        subst e
        exact hij ((List.getElem?_inj (List.getElem?_eq_some_iff.1 hi).1 h.nodup).1 (hi.trans hj.symm))
      rw [h7 b' hne]
      exact h.blk j b' c2 hj hc2
  · obtain ⟨hv, hn⟩ := h.ext a v ha
    refine ⟨?_, hn⟩
    rw [← hv]
    exact cell_of_block (h7 _ fun e => hn (by rw [e]; exact List.mem_of_getElem? hi))
  · obtain ⟨k1, k2, cur, k3, k4⟩ := h.own b' p hb'
    exact ⟨k1, k2, cur, (h7 b' fun e => k2 (by rw [e]; exact List.mem_of_getElem? hi)).trans k3, k4⟩

theorem Rel.trans {w0 w w' : World} {β0 β β' : List Nat} {m m' : Mem} {E0 E E' : Ext} (h : Rel w0 β0 E0 β m E w) (k : Rel w β E β' m' E' w') : Rel w0 β0 E0 β' m' E' w' := by
  refine ⟨fun a v ho hv => k.ge a v (h.own_none (h.dom a v hv) ho) (h.ge a v ho hv), k.os.trans h.os, k.tape.trans h.tape, ⟨k.output.1.trans h.output.1, dLe_trans h.output.2 k.output.2⟩, Nat.le_trans h.size k.size, fun j hj hn ho => ?_, ?_, k.nodup, k.len, k.blk, k.ext, h.dom,
    fun a v ha hl ho => h.le0 a v (k.le0 a v ha (Nat.lt_of_lt_of_le hl h.size) (h.own_none hl ho)) hl ho, fun b p hb => ?_, h.glob⟩
  · have hnb : j ∉ β := fun hm => by
      obtain ⟨γ, hγ, hb⟩ := h.pre
      rw [hγ] at hm
      rcases List.mem_append.1 hm with hm | hm
      · exact hn hm
      · have := hb _ hm; omega
    rw [k.old j (Nat.lt_of_lt_of_le hj h.size) hnb (h.own_none hj ho)]
    exact h.old j hj hn ho
  · obtain ⟨γ, hγ, hb⟩ := h.pre
    obtain ⟨γ', hγ', hb'⟩ := k.pre
    refine ⟨γ ++ γ', by rw [hγ', hγ, List.append_assoc], fun b hm => ?_⟩
    rcases List.mem_append.1 hm with hm | hm
    · exact hb b hm
    · exact Nat.le_trans h.size (hb' b hm)
  · obtain ⟨k1, k2⟩ := k.own b p hb
    refine ⟨?_, k2⟩
    rcases k1 with k1 | k1
    · exact .inl (Nat.le_trans h.size k1)
    · obtain ⟨q, hq⟩ := Option.isSome_iff_exists.1 k1
      exact (h.own b q hq).1

/-! ### quiet operations -/
theorem gen_sound {o : Oper} {s : St} {k : AV → Prop} (h : gen P o s k) {β : List Nat} {a : Act} {w : World} (hF : CF β s.fr a.tmps) :
    ∃ x r, (execOp a.eval o).run P w = .ok (.value x) w ∧ Conc β r x ∧ k r := by
  unfold gen at h
  split at h
  · rename_i hall
    rw [Bool.and_eq_true] at hall
    obtain ⟨hs, hall⟩ := hall
    have he : execOp a.eval o = execOp (rho s.fr) o := execOp_congr o (fun cs b e => by simp [noSel, e] at hs) fun x hx => by
      have hp := List.all_eq_true.1 hall x (by simpa using hx)
      have hc := hF.ev x
      unfold rho
      cases hx' : ev s.fr x with
      | v y => rw [hx'] at hc; exact hc
      | p i k => rw [hx'] at hp; cases hp
    rw [he]
    split at h
    · rename_i x hx
      exact ⟨x, .v x, prun_run _ _ hx, rfl, h⟩
    · cases h
  · cases h

theorem run_loadVar {w : World} {b : Nat} {c : Blk} (hb : w.heap[b]? = some (Obj.cells c.1.toArray c.2 (0, 0))) {m : Mem} {i : Nat} (hm : m[i]? = some c) {t : TypeId} {k : Nat} {r : AV} (h : aload P m t i k = some r) :
    ∃ x, (loadVar t ⟨b, k, none⟩).run P w = .ok x w ∧ r = .v x := by
  unfold aload at h
  rw [hm] at h
  simp only [loadVar, Sem.run_bind]
  split at h
  · rename_i b' n hb' hagg hsz
    cases hb'
    rw [prun_none hagg w]
    simp only [Result.andThen_ok, if_true, Sem.run_bind, prun_none hsz w]
    split at h
    · rename_i hl
      cases h
      rw [run_loads hb k n (Nat.le_of_ble_eq_true hl)]
      exact ⟨_, rfl, rfl⟩
    · cases h
  · rename_i b' hb' hagg
    cases hb'
    rw [prun_none hagg w]
    simp only [Result.andThen_ok, Bool.false_eq_true, if_false, run_load, cell_at hb]
    split at h
    · rename_i x hx
      cases h
      rw [hx]
      exact ⟨_, rfl, rfl⟩
    · cases h
  · cases h

theorem eloads_sound {E : Ext} {w : World} (hE : ∀ a v, E a = some v → w.cell? a = some v) {a : Addr} : ∀ (n i : Nat) (k : List Value → Prop), eloads E a i n k → ∃ l, k l ∧ l.length = n ∧ ∀ j v, l[j]? = some v → w.cell? (a.add (i + j)) = some v
  | 0, i, k, h => ⟨[], h, rfl, fun j v hj => by cases hj⟩
  | n + 1, i, k, h => by
    obtain ⟨v, hv, h⟩ := h
    obtain ⟨l, hk, hl, hc⟩ := eloads_sound hE n (i + 1) _ h
    refine ⟨v :: l, hk, by simp [hl], fun j u hj => ?_⟩
    cases j with
    | zero => cases hj; exact hE _ _ hv.out
    | succ j => rw [show i + (j + 1) = i + 1 + j by omega]; exact hc j u hj

theorem eload_sound {E : Ext} {w : World} (hE : ∀ a v, E a = some v → w.cell? a = some v) {t : TypeId} {a : Addr} {k : AV → Prop} (h : eload P E t a k) :
    ∃ x, (loadVar t a).run P w = .ok x w ∧ k (.v x) := by
  unfold eload at h
  simp only [loadVar, Sem.run_bind]
  split at h
  · rename_i n hagg hsz
    rw [prun_none hagg w]
    simp only [Result.andThen_ok, if_true, Sem.run_bind, prun_none hsz w]
    obtain ⟨l, hk, hl, hc⟩ := eloads_sound hE n 0 _ h
    have := run_loadCells_list (P := P) (w := w) a l (fun j v hj => by have := hc j v hj; simpa using this)
    rw [hl] at this
    rw [this]
    exact ⟨_, rfl, hk⟩
  · rename_i hagg
    rw [prun_none hagg w]
    obtain ⟨v, hv, hk⟩ := h
    simp only [Result.andThen_ok, Bool.false_eq_true, if_false, run_load, hE a v hv.out]
    exact ⟨_, rfl, hk⟩
  · cases h

theorem parts_eq {β : List Nat} {fr : List AV} {a : Act} (hF : CF β fr a.tmps) : ∀ {ps : List (Nat × Operand)} {l : List (Nat × Value)}, parts fr ps = some l → (ps.map fun x => (x.1, a.eval x.2)) = l
  | [], l, h => by cases h; rfl
  | (i, x) :: r, l, h => by
    unfold parts at h
    split at h
    · rename_i y l' hv hr
      cases h
      have := hF.ev x
      rw [hv] at this
      rw [List.map_cons, parts_eq hF hr]
      exact congrArg (fun z => (i, z) :: l') this
    · cases h

theorem plainsOf_eq {β : List Nat} {fr : List AV} {a : Act} (hF : CF β fr a.tmps) : ∀ {ps : List Operand} {l : List Value}, plainsOf fr ps = some l → ps.map a.eval = l
  | [], l, h => by cases h; rfl
  | x :: r, l, h => by
    unfold plainsOf at h
    split at h
    · rename_i y l' hv hr
      cases h
      have := hF.ev x
      rw [hv] at this
      rw [List.map_cons, plainsOf_eq hF hr]
      exact congrArg (fun z => z :: l') this
    · cases h

theorem fold_set : ∀ (vs : List Value) (cs : Array Value) (off k : Nat), ((vs.zipIdx k).foldl (fun cs (x : Value × Nat) => cs.setIfInBounds (off + x.2) x.1) cs).toList = setCells cs.toList (off + k) vs
  | [], cs, off, k => rfl
  | v :: r, cs, off, k => by
    rw [List.zipIdx_cons, List.foldl_cons, fold_set r]
    simp only [setCells, Array.toList_setIfInBounds]
    rw [Nat.add_assoc]

theorem afill_eq {place : Nat → Option (Nat × Nat)} : ∀ {r : List (Nat × Value)} {cs cs' : List Value}, afill place r cs = some cs' → Instr.fill place cs.toArray r = some cs'.toArray
  | [], cs, cs', h => by cases h; rfl
  | (i, v) :: r, cs, cs', h => by
    unfold afill at h
    unfold Instr.fill
    split at h
    · cases h
    · rename_i off sz hp
      rw [hp]
      simp only
      split at h
      · rename_i hb
        rw [Bool.and_eq_true] at hb
        have h1 := Nat.eq_of_beq_eq_true hb.1
        have h2 := Nat.le_of_ble_eq_true hb.2
        simp only [Array.length_toList] at h1
        rw [if_neg (by simp; omega)]
        have hset : (v.cells.zipIdx.foldl (fun cs (x : Value × Nat) => cs.setIfInBounds (off + x.2) x.1) cs.toArray) = (setCells cs off v.cells.toList).toArray := by
          apply Array.ext'
          rw [← Array.foldl_toList, Array.toList_zipIdx]
          have := fold_set v.cells.toList cs.toArray off 0
          simpa using this
        have := afill_eq h
        rw [← hset] at this
        exact this
      · cases h

theorem zeroRow_eq {z : List Value} {n : Nat} (hz : z.length = n) (hn : 0 < n) : ∀ len, ((List.range (len * n)).map fun i => z[i % z.length]!) = zeroRow z len
  | 0 => by simp [zeroRow]
  | len + 1 => by
    have ih := zeroRow_eq hz hn len
    rw [Nat.succ_mul, Nat.add_comm, List.range_add, List.map_append]
    unfold zeroRow
    congr 1
    · apply List.ext_getElem?
      intro j
      by_cases hj : j < n
      · have hjz : j < z.length := by omega
        rw [List.getElem?_map, List.getElem?_range hj, Option.map_some, Nat.mod_eq_of_lt hjz]
        simp [hjz]
      · rw [List.getElem?_eq_none (by simp; omega), List.getElem?_eq_none (by omega)]
    · rw [← ih, List.map_map]
      apply List.map_congr_left
      intro i _
      simp only [Function.comp]
      rw [hz, Nat.add_mod_left]

/-- Structs of these types are compared cell by cell. -/
def EqOk (P : Program) (EQ : List (TypeId × Nat)) : Prop := ∀ t m n r, eqOf EQ t m n = some r → ∀ (x y : Operand) (w : World),
  (do eqGuard .eql t x y (.agg m.toArray) (.agg n.toArray); binOp .eql t (.agg m.toArray) (.agg n.toArray) : Sem Value).run P w = .ok (.bool r) w ∧
  (do eqGuard .neq t x y (.agg m.toArray) (.agg n.toArray); binOp .neq t (.agg m.toArray) (.agg n.toArray) : Sem Value).run P w = .ok (.bool (!r)) w

theorem optI_sound {β : List Nat} {fr : List AV} {a : Act} (hF : CF β fr a.tmps) {o : Option Operand} {d i : Int} (h : optI fr o d = some i) : (o = none ∧ i = d) ∨ ∃ x k, o = some x ∧ a.eval x = .int k i := by
  unfold optI at h
  split at h
  · cases h; exact .inl ⟨rfl, rfl⟩
  · rename_i x
    split at h
    · rename_i k j hv
      cases h
      have := hF.ev x
      rw [hv] at this
      exact .inr ⟨x, k, rfl, this⟩
    · cases h
theorem ay_sound {EQ : List (TypeId × Nat)} (hEQ : EqOk P EQ) {o : Oper} {s : St} {k : AV → Prop} (h : ay P EQ o s k) {w0 w : World} {β0 β : List Nat} {E0 : Ext} {a : Act} (hR : Rel w0 β0 E0 β s.m s.E w) (hF : CF β s.fr a.tmps) :
    ∃ x r, (execOp a.eval o).run P w = .ok (.value x) w ∧ Conc β r x ∧ k r := by
  have hE : ∀ a v, s.E a = some v → w.cell? a = some v := fun a v ha => (hR.ext a v ha).1
  have hgen : gen P o s k → ∃ x r, (execOp a.eval o).run P w = .ok (.value x) w ∧ Conc β r x ∧ k r := fun h => gen_sound h hF
  have val : ∀ {x : Operand} {u : Value}, ev s.fr x = .v u → a.eval x = u := fun {x u} hx => by
    have := hF.ev x
    rw [hx] at this
    exact this
  obtain ⟨dst, op, type, pos, after, guard⟩ := o
  cases op <;> unfold ay at h <;> simp only at h
  case move x => exact ⟨_, _, rfl, hF.ev x, h⟩
  case assign x => exact ⟨_, _, rfl, hF.ev x, h⟩
  case pick c y z =>
    split at h
    · rename_i t hv
      have hc' := val hv
      refine ⟨if t then a.eval y else a.eval z, _, by simp [execOp, hc', asBool], ?_, h⟩
      cases t
      · exact hF.ev z
      · exact hF.ev y
    · cases h
  case nilCheck x =>
    split at h
    · rename_i i j hv
      have hc := hF.ev x
      rw [hv] at hc
      obtain ⟨b, hb, hx⟩ := hc
      exact ⟨a.eval x, .p i j, by simp [execOp, hx], ⟨b, hb, hx⟩, h⟩
    · exact hgen h
  case fieldAddr t x f =>
    split at h
    · rename_i i j hv
      have hc := hF.ev x
      rw [hv] at hc
      obtain ⟨b, hb, hx⟩ := hc
      split at h
      · rename_i n hn
        unfold foff at hn
        split at hn
        · rename_i fs hfs
          split at hn
          · rename_i g hg
            split at hn
            · rename_i sz hsz
              split at hn
              · cases hn
              · rename_i hne
                rw [normN_eq] at hn
                cases hn
                have hne' : sz ≠ 0 := fun e => by subst e; cases hne
                refine ⟨.pointer (some ⟨b, j + g.offset, none⟩), .p i (j + g.offset), ?_, ⟨b, hb, rfl⟩, h⟩
                simp only [execOp, Instr.fieldAt, Sem.run_bind, prun_none hfs w, Result.andThen_ok, hg, hx, Instr.sureAddr, Sem.run_pure, fieldPlace, prun_none hsz w]
                simp [hne', addr_add]
            · cases hn
          · cases hn
        · cases hn
      · cases h
    · rename_i ad hv
      have hx := val hv
      split at h
      · rename_i n hn
        unfold foff at hn
        split at hn
        · rename_i fs hfs
          split at hn
          · rename_i g hg
            split at hn
            · rename_i sz hsz
              split at hn
              · cases hn
              · rename_i hne
                rw [normN_eq] at hn
                cases hn
                have hne' : sz ≠ 0 := fun e => by subst e; cases hne
                refine ⟨.pointer (some (ad.add g.offset)), .v (.pointer (some (ad.add g.offset))), ?_, rfl, h⟩
                simp only [execOp, Instr.fieldAt, Sem.run_bind, prun_none hfs w, Result.andThen_ok, hg, hx, Instr.sureAddr, Sem.run_pure, fieldPlace, prun_none hsz w]
                simp [hne']
            · cases hn
          · cases hn
        · cases hn
      · cases h
    · exact hgen h
  case load t x =>
    split at h
    · rename_i i j hv
      have hc := hF.ev x
      rw [hv] at hc
      obtain ⟨b, hb, hx⟩ := hc
      split at h
      · rename_i r hr
        cases hm : s.m[i]? with
        | none => simp [aload, hm] at hr
        | some c =>
          obtain ⟨y, hy, rfl⟩ := run_loadVar (w := w) (hR.blk i b c hb hm) hm hr
          refine ⟨y, .v y, ?_, rfl, h⟩
          simp only [execOp, Instr.loadAt, Sem.run_bind, hx, Instr.sureAddr, Sem.run_pure, Result.andThen_ok, hy]
      · cases h
    · rename_i ad hv
      have hx := val hv
      obtain ⟨y, hy, hk⟩ := eload_sound hE h
      refine ⟨y, .v y, ?_, rfl, hk⟩
      simp only [execOp, Instr.loadAt, Sem.run_bind, hx, Instr.sureAddr, Sem.run_pure, Result.andThen_ok, hy]
    · cases h
  case indexAddr t x ix =>
    split at h
    · rename_i ad len cap kd i hvx hvi
      have hx := val hvx
      have hi := val hvi
      split at h
      · rename_i n hn
        unfold esize at hn
        simp only [normN_eq] at hn
        split at hn
        · rename_i e he
          obtain ⟨hs, h⟩ := h
          have hs := hs.out
          refine ⟨_, .v (.pointer (some (ad.add (i.toNat * n)))), ?_, rfl, h⟩
          simp only [execOp, Instr.indexAt, Sem.run_bind, hx, hi, asIntOf, Sem.run_pure, Result.andThen_ok, prun_none he w]
          rw [if_pos hs]
          simp only [Sem.run_bind, prun_none hn w, Result.andThen_ok, Sem.run_pure]
        · cases hn
      · cases h
    · rename_i j off kd i hvx hvi
      have hc := hF.ev x
      rw [hvx] at hc
      obtain ⟨b, hb, hx⟩ := hc
      have hi := val hvi
      split at h
      · rename_i len z hn
        unfold arrOf at hn
        split at hn
        · rename_i n' e he
          rw [normN_eq] at hn
          split at hn
          · rename_i z' hz
            cases hn
            obtain ⟨hs, h⟩ := h
            have hs := hs.out
            refine ⟨_, .p j (off + i.toNat * z), ?_, ⟨b, hb, rfl⟩, h⟩
            simp only [execOp, Instr.indexAt, Sem.run_bind, hx, hi, asIntOf, Sem.run_pure, Result.andThen_ok, prun_none he w, Instr.sureAddr]
            rw [if_pos hs]
            simp only [Sem.run_bind, prun_none hz w, Result.andThen_ok, Sem.run_pure, addr_add]
          · cases hn
        · cases hn
      · cases h
    · rename_i ad kd i hvx hvi
      have hx := val hvx
      have hi := val hvi
      split at h
      · rename_i len z hn
        unfold arrOf at hn
        split at hn
        · rename_i n' e he
          rw [normN_eq] at hn
          split at hn
          · rename_i z' hz
            cases hn
            obtain ⟨hs, h⟩ := h
            have hs := hs.out
            refine ⟨_, .v (.pointer (some (ad.add (i.toNat * z)))), ?_, rfl, h⟩
            simp only [execOp, Instr.indexAt, Sem.run_bind, hx, hi, asIntOf, Sem.run_pure, Result.andThen_ok, prun_none he w, Instr.sureAddr]
            rw [if_pos hs]
            simp only [Sem.run_bind, prun_none hz w, Result.andThen_ok, Sem.run_pure]
          · cases hn
        · cases hn
      · cases h
    · cases h
  case slice t x lo hi mx =>
    split at h
    · cases h
    · split at h
      · rename_i ad n c hvx
        have hx := val hvx
        split at h
        · rename_i z l hz hl
          have hlo := optI_sound hF hl
          unfold esize at hz
          split at hz
          · rename_i e he
            rw [normN_eq] at hz
            split at h
            · obtain ⟨hs, h⟩ := h
              obtain ⟨s1, s2⟩ := hs.out
              refine ⟨_, .v _, ?_, rfl, h⟩
              rcases hlo with ⟨rfl, rfl⟩ | ⟨y, kd, rfl, hy⟩
              · simp only [execOp, Instr.sliceAt, Instr.slice, Instr.sliceBounds, Sem.run_bind, hx, Sem.run_pure, Result.andThen_ok, prun_none he w, prun_none hz w, Option.map_none]
                simp [partA, prun_none hz w]
              · simp only [execOp, Instr.sliceAt, Instr.slice, Instr.sliceBounds, Instr.sliceBound, Sem.run_bind, hx, hy, asIntOf, Sem.run_pure, Result.andThen_ok, prun_none he w, prun_none hz w, Option.map_none, Option.map_some]
                rw [if_pos ⟨s1, s2⟩]
                simp [partA, prun_none hz w]
            · rename_i y
              split at h
              · rename_i kd' hh hvy
                have hy' := val hvy
                obtain ⟨hs, h⟩ := h
                obtain ⟨s1, s2, s3⟩ := hs.out
                refine ⟨_, .v _, ?_, rfl, h⟩
                have s4 : l ≤ (hh.toNat : Int) := by omega
                have s5 : 0 ≤ hh ∧ hh ≤ (c : Int) := by omega
                rcases hlo with ⟨rfl, rfl⟩ | ⟨y, kd, rfl, hy⟩
                · simp only [execOp, Instr.sliceAt, Instr.slice, Instr.sliceBounds, Instr.sliceBound, Sem.run_bind, hx, hy', asIntOf, Sem.run_pure, Result.andThen_ok, prun_none he w, prun_none hz w, Option.map_none, Option.map_some]
                  rw [if_pos s5]
                  simp [partA, prun_none hz w]
                · simp only [execOp, Instr.sliceAt, Instr.slice, Instr.sliceBounds, Instr.sliceBound, Sem.run_bind, hx, hy, hy', asIntOf, Sem.run_pure, Result.andThen_ok, prun_none he w, prun_none hz w, Option.map_none, Option.map_some]
                  rw [if_pos s5]
                  simp only [Sem.run_pure, Result.andThen_ok]
                  rw [if_pos ⟨s1, s4⟩]
                  simp [partA, prun_none hz w]
              · cases h
          · cases hz
        · cases h
      · rename_i b hvx
        have hx := val hvx
        split at h
        · rename_i l hh hst hl hhi
          have hlo := optI_sound hF hl
          have hhi := optI_sound hF hhi
          obtain ⟨hs, h⟩ := h
          obtain ⟨s1, s2, s3⟩ := hs.out
          have s4 : l ≤ (hh.toNat : Int) := by omega
          have s5 : 0 ≤ hh ∧ hh ≤ (b.size : Int) := by omega
          unfold isStr at hst
          split at hst
          · rename_i hu
            refine ⟨_, .v _, ?_, rfl, h⟩
            rcases hlo with ⟨rfl, rfl⟩ | ⟨y, kd, rfl, hy⟩ <;> rcases hhi with ⟨rfl, rfl⟩ | ⟨y', kd', rfl, hy'⟩
            · simp only [execOp, Instr.sliceAt, Instr.slice, Instr.sliceBounds, Instr.sliceBound, Sem.run_bind, hx, asIntOf, Sem.run_pure, Result.andThen_ok, prun_none hu w, Option.map_none]
              simp
            · simp only [execOp, Instr.sliceAt, Instr.slice, Instr.sliceBounds, Instr.sliceBound, Sem.run_bind, hx, hy', asIntOf, Sem.run_pure, Result.andThen_ok, prun_none hu w, Option.map_none, Option.map_some]
              simp [s5]
            · simp only [execOp, Instr.sliceAt, Instr.slice, Instr.sliceBounds, Instr.sliceBound, Sem.run_bind, hx, hy, asIntOf, Sem.run_pure, Result.andThen_ok, prun_none hu w, Option.map_none, Option.map_some]
              simp [s1, s2]
            · simp only [execOp, Instr.sliceAt, Instr.slice, Instr.sliceBounds, Instr.sliceBound, Sem.run_bind, hx, hy, hy', asIntOf, Sem.run_pure, Result.andThen_ok, prun_none hu w, Option.map_none, Option.map_some]
              simp only [Option.isSome_none, Bool.false_eq_true, if_false, Sem.run_bind, Sem.run_pure, Result.andThen_ok, asIntOf]
              rw [if_pos s5]
              simp only [Sem.run_pure, Result.andThen_ok]
              rw [if_pos ⟨s1, s4⟩]
              simp
          · cases hst
        · cases h
      · cases h
  case convert t t' x =>
    split at h
    · rename_i ad n c hvx
      have hx := val hvx
      split at h
      · rename_i hb
        rw [Bool.and_eq_true] at hb
        obtain ⟨hb1, hb2⟩ := hb
        unfold isBytes at hb1
        unfold isStr at hb2
        split at hb1
        · rename_i e he
          split at hb1
          · rename_i hu
            split at hb2
            · rename_i hs'
              obtain ⟨ns, hs, h⟩ := h
              obtain ⟨g1, g2, g3⟩ := hs.out
              refine ⟨_, .v _, ?_, rfl, h⟩
              have hrun : (convert t t' (.slice ad n c)).run P w = .ok (.string (ofBytes ns)) w := by
                unfold convert
                simp only [Sem.run_bind, prun_none he w, prun_none hs' w, prun_none hu w, Result.andThen_ok]
                cases ad with
                | none =>
                  have : ns = [] := List.length_eq_zero_iff.1 (g1.trans (g2 rfl))
                  subst this
                  simp [Conv.bytesToString, ofBytes]
                | some ad =>
                  have hl := run_loadCells_list (P := P) (w := w) ad (ns.map (Value.int .u8)) (fun j v hj => by
                    rw [List.getElem?_map] at hj
                    cases hm : ns[j]? with
                    | none => rw [hm] at hj; cases hj
                    | some m => rw [hm] at hj; cases hj; exact hE _ _ (g3 ad rfl j m hm))
                  rw [List.length_map, g1] at hl
                  exact run_bytesToString w ad n c ns hl
              simp only [execOp, hx, Sem.run_bind, hrun]
              rfl
            · cases hb2
          · cases hb1
        · cases hb1
      · cases h
    · exact hgen h
  case index t x ix =>
    split at h
    · rename_i b kd i hvx hvi
      have hx := val hvx
      have hi := val hvi
      split at h
      · rename_i hs
        obtain ⟨c, hc, h⟩ := h
        obtain ⟨h0, hc⟩ := hc.out
        unfold isStr at hs
        split at hs
        · rename_i hu
          refine ⟨_, .v (.int .u8 c.toNat), ?_, rfl, h⟩
          simp only [execOp, Instr.index, Sem.run_bind, hx, hi, asIntOf, Sem.run_pure, Result.andThen_ok, prun_none hu w]
          rw [if_pos h0, hc]
          rfl
        · cases hs
      · cases h
    · cases h
  case binOp b t x y yt =>
    split at h
    · rename_i i m j n hvx hvy
      have hx := val hvx
      have hy := val hvy
      split at h
      · rename_i hij
        have hij : i = j := by simpa using hij
        subst hij
        obtain ⟨hs, h⟩ := h
        have hs := hs.out
        refine ⟨_, .v (.int i (i.wrap (m.tdiv n))), ?_, rfl, h⟩
        simp [execOp, hx, hy, eqGuard, binOp, Op.intDiv, hs]
      · cases h
    · rename_i i m j n hvx hvy
      have hx := val hvx
      have hy := val hvy
      split at h
      · rename_i hij
        have hij : i = j := by simpa using hij
        subst hij
        obtain ⟨hs, h⟩ := h
        have hs := hs.out
        refine ⟨_, .v (.int i (m.tmod n)), ?_, rfl, h⟩
        simp [execOp, hx, hy, eqGuard, binOp, Op.intDiv, hs]
      · cases h
    · rename_i m n hvx hvy
      have hx := val hvx
      have hy := val hvy
      obtain ⟨hs, h⟩ := h
      have hs := hs.out
      refine ⟨_, .v _, ?_, rfl, h⟩
      have hn : ¬ (((m.size + n.size : Nat) : Int) > IntKind.i64.max) := by simp [IntKind.max, IntKind.signed, IntKind.bits]; omega
      simp only [execOp, hx, hy, eqGuard, binOp, Op.stringOp]
      rw [if_neg hn]
      simp
    · rename_i m n hvx hvy
      have hx := val hvx
      have hy := val hvy
      split at h
      · rename_i r hr
        have := (hEQ t _ _ r hr x y w).1
        simp only [Array.toArray_toList] at this
        refine ⟨_, .v (.bool r), ?_, rfl, h⟩
        simp only [execOp, hx, hy]
        rw [Sem.run_bind, this]
        rfl
      · cases h
    · rename_i m n hvx hvy
      have hx := val hvx
      have hy := val hvy
      split at h
      · rename_i r hr
        have := (hEQ t _ _ r hr x y w).2
        simp only [Array.toArray_toList] at this
        refine ⟨_, .v (.bool (!r)), ?_, rfl, h⟩
        simp only [execOp, hx, hy]
        rw [Sem.run_bind, this]
        rfl
      · cases h
    · exact hgen h
  case build t ps =>
    split at h
    · rename_i l hl
      split at h
      · rename_i cs hcs
        unfold abuild at hcs
        split at hcs
        · rename_i z fs hz hu
          split at hcs
          · rename_i hall
            refine ⟨_, .v (.agg cs.toArray), ?_, rfl, h⟩
            have hpm : (ps.map fun (x : Nat × Operand) => match x with | (i, x) => (i, a.eval x)) = l.toArray := by
              apply Array.ext'
              rw [Array.toList_map]
              exact parts_eq hF hl
            have hsz : ∀ f ∈ fs.toList, ∃ n, prun P (sizeOf f.type) = some n := fun f hf => by
              have := List.all_eq_true.1 hall f hf
              exact Option.isSome_iff_exists.1 this
            have hmap : ∃ pl : Array (Nat × Nat), (fs.mapM (fun (f : Field) => (do pure (f.offset, ← sizeOf f.type) : Sem (Nat × Nat)))).run P w = .ok pl w ∧ ∀ (i : Nat), pl[i]? = splace P fs i := by
              rw [Array.mapM_eq_mapM_toList, Sem.run_map]
              have : ∀ l : List Field, (∀ f ∈ l, ∃ n, prun P (sizeOf f.type) = some n) → ∃ pl : List (Nat × Nat), (l.mapM (fun (f : Field) => (do pure (f.offset, ← sizeOf f.type) : Sem (Nat × Nat)))).run P w = .ok pl w ∧ ∀ (i : Nat), pl[i]? = match l[i]? with
                  | some (f : Field) => match prun P (sizeOf f.type) with
                    | some n => some (f.offset, n)
                    | none => none
                  | none => none := by
                intro l
                induction l with
                | nil => exact fun _ => ⟨[], rfl, fun i => rfl⟩
                | cons f r ih =>
                  intro hl
                  obtain ⟨n, hn⟩ := hl f List.mem_cons_self
                  obtain ⟨pl, h1, h2⟩ := ih (fun g hg => hl g (List.mem_cons_of_mem _ hg))
                  refine ⟨(f.offset, n) :: pl, ?_, fun i => ?_⟩
                  · simp only [List.mapM_cons, Sem.run_bind, prun_none hn w, Result.andThen_ok, Sem.run_pure, h1]
                  · cases i with
                    | zero => simp [hn]
                    | succ i => simpa using h2 i
              obtain ⟨pl, h1, h2⟩ := this fs.toList hsz
              rw [h1]
              exact ⟨pl.toArray, rfl, fun i => by have := h2 i; simpa [splace] using this⟩
            obtain ⟨pl, hpl, hget⟩ := hmap
            have hfill := afill_eq hcs
            simp only [execOp, Sem.run_bind]
            simp only [Instr.build, Sem.run_bind, prun_none hz w, Result.andThen_ok, prun_none hu w, hpl, hpm]
            have hfun : (fun x => pl[x]?) = splace P fs := funext hget
            rw [hfun]
            simp only [Array.toArray_toList] at hfill
            rw [hfill]
            rfl
          · cases hcs
        · rename_i z nn e hz hu
          split at hcs
          · rename_i n hn
            refine ⟨_, .v (.agg cs.toArray), ?_, rfl, h⟩
            have hpm : (ps.map fun (x : Nat × Operand) => match x with | (i, x) => (i, a.eval x)) = l.toArray := by
              apply Array.ext'
              rw [Array.toList_map]
              exact parts_eq hF hl
            have hfill := afill_eq hcs
            simp only [execOp, Sem.run_bind]
            simp only [Instr.build, Sem.run_bind, prun_none hz w, Result.andThen_ok, prun_none hu w, prun_none hn w, hpm]
            simp only [Array.toArray_toList] at hfill
            rw [hfill]
            rfl
          · cases hcs
        · cases hcs
      · cases h
    · cases h
  case call c =>
    split at h
    · rename_i b hcal
      split at h
      · rename_i l hl
        split at h
        · rename_i x hx
          refine ⟨x, .v x, ?_, rfl, h⟩
          have hargs : c.args.map a.eval = l.toArray := by
            apply Array.ext'
            rw [Array.toList_map]
            exact plainsOf_eq hF hl
          simp only [execOp, Sem.run_bind, resolve, hcal, Sem.run_pure, Result.andThen_ok, invoke, hargs]
          exact prun_none hx w
        · cases h
      · cases h
    · cases h
  all_goals exact hgen h

/-! ### operations that act -/
def Post (w : World) (β : List Nat) (E : Ext) (K : Kont) (e : Ending) (w' : World) : Prop :=
  ∃ r m' E' β' x, e = .returned x ∧ Conc β' r x ∧ Rel w β E β' m' E' w' ∧ K r m' E'

def Sp.ok (P : Program) (f : FuncId) (sp : Sp) : Prop := ∀ (as : List AV) (m : Mem) (E : Ext) (K : Kont), sp.f as m E K →
  ∀ (w : World) (β : List Nat) (vs : Array Value), Rel w β E β m E w → as.length = vs.size → (∀ (i : Nat) (a : AV), as[i]? = some a → ∃ x, vs[i]? = some x ∧ Conc β a x) → Calls P f vs w (Post w β E K)

def Enters (P : Program) (f : FuncId) : Prop := ∃ fn, P.funcs[f]? = some fn ∧ (fn.name == "runtime.NumGoroutine") = false ∧ fn.body.isNone = false
theorem Enters.run {f : FuncId} (h : Enters P f) (vs : Array Value) (w : World) : (callFunc f vs).run P w = .ok (.enter f vs) w := by
  obtain ⟨fn, hf, hn, hb⟩ := h
  simp only [callFunc, Sem.run_bind, run_program, Result.andThen_ok, hf, hn, hb]
  rfl

def okL (P : Program) : List (FuncId × Sp) → Prop
  | [] => True
  | (f, s) :: r => Enters P f ∧ Sp.ok P f s ∧ okL P r
def Tab.ok (P : Program) (T : Tab) : Prop := okL P T.l
theorem okL_find : ∀ {T : List (FuncId × Sp)}, okL P T → ∀ {f : FuncId} {s : Sp}, findL T f = some s → Enters P f ∧ Sp.ok P f s
  | [], _, f, s, h => by cases h
  | (g, s') :: r, ⟨h1, h2, h3⟩, f, s, h => by
    simp only [findL] at h
    split at h
    · rename_i hg
      have := Nat.eq_of_beq_eq_true hg
      cases h
      subst this
      exact ⟨h1, h2⟩
    · exact okL_find h3 h

theorem Tab.ok_find {T : Tab} (hT : Tab.ok P T) {f : FuncId} {s : Sp} (h : T.find f = some s) : Enters P f ∧ Sp.ok P f s := okL_find hT h

def AK (w0 : World) (β0 : List Nat) (E0 : Ext) (K : St → Prop) (Kc : Act → World → Prop) : Prop :=
  ∀ s β a w, K s → Rel w0 β0 E0 β s.m s.E w → CF β s.fr a.tmps → a.defers = [] → Kc a w

theorem St.put_m (s : St) (d : Option Tmp) (a : AV) : (s.put d a).m = s.m := by cases d <;> rfl
theorem St.put_E (s : St) (d : Option Tmp) (a : AV) : (s.put d a).E = s.E := by cases d <;> rfl
theorem put_defers (a : Act) (d : Option Tmp) (x : Value) : (a.put d x).defers = a.defers := by cases d <;> rfl

theorem AK.put {w0 : World} {β0 : List Nat} {E0 : Ext} {K : St → Prop} {Kc : Act → World → Prop} (h : AK w0 β0 E0 K Kc) {s : St} {β : List Nat} {a : Act} {w : World} {d : Option Tmp} {r : AV} {x : Value}
    (hK : K (s.put d r)) (hR : Rel w0 β0 E0 β s.m s.E w) (hF : CF β s.fr a.tmps) (hd : a.defers = []) (hc : Conc β r x) : Kc (a.put d x) w :=
  h _ β _ w hK (by rw [St.put_m, St.put_E]; exact hR) (hF.put hc d) (by rw [put_defers]; exact hd)

/-- A new row, of which the first cells are known. -/
theorem Rel.row {w0 w w' : World} {β0 β : List Nat} {m : Mem} {E0 E : Ext} (h : Rel w0 β0 E0 β m E w) (cs : List Value) (cur : Array Value) (t : TypeId) (hcs : ∀ (j : Nat) (v : Value), cs[j]? = some v → cur[j]? = some v)
    (h1 : w'.os = w.os) (h2 : w'.tape = w.tape) (h3 : w'.output = w.output ∧ w.drawn ≤ w'.drawn) (h4 : w'.heap = w.heap.push (.cells cur t (0, 0))) :
    Rel w0 β0 E0 β m (E.with w.heap.size cs cur.size t) w' := by
  have hpush : ∀ k, k < w.heap.size → w'.heap[k]? = w.heap[k]? := fun k hk => by
    rw [h4, Array.getElem?_push, if_neg (by omega)]
  have hnew : w'.heap[w.heap.size]? = some (.cells cur t (0, 0)) := by rw [h4]; simp
  refine ⟨fun a v ho hv => ?_, h1.trans h.os, h2.trans h.tape, ⟨h3.1.trans h.output.1, dLe_trans h.output.2 (dLe_of h3.2)⟩, by rw [h4]; simp; have := h.size; omega, fun k hk hn ho => ?_, h.pre, h.nodup, h.len, fun i b c hi hc => ?_, fun a v ha => ?_, h.dom, fun a v ha hl ho => ?_, fun b p hb => ?_, h.glob⟩
  · have hl := cell_lt (h.ext a v (h.ge a v ho hv)).1
    unfold Ext.with
    dsimp only
    rw [if_neg (by rintro ⟨e, _⟩; omega)]
    exact h.ge a v ho hv
  · rw [hpush k (Nat.lt_of_lt_of_le hk h.size)]
    exact h.old k hk hn ho
  · rw [hpush b (h.lt (List.mem_of_getElem? hi))]
    exact h.blk i b c hi hc
  · unfold Ext.with at ha
    dsimp only at ha
    split at ha
    · rename_i hb
      obtain ⟨blk, off, spot⟩ := a
      simp only at hb ha
      obtain ⟨rfl, rfl⟩ := hb
      refine ⟨?_, fun hm => by have := h.lt hm; simp at this⟩
      unfold World.cell?
      simp only [hnew]
      simpa using hcs _ _ ha
    · obtain ⟨hc, hn⟩ := h.ext a v ha
      exact ⟨(cell_of_block (hpush _ (cell_lt hc))).trans hc, hn⟩
  · unfold Ext.with at ha
    dsimp only at ha
    have := h.size
    rw [if_neg (by rintro ⟨e, _⟩; omega)] at ha
    exact h.le0 a v ha hl ho
  · unfold Ext.with at hb
    dsimp only at hb
    split at hb
    · rename_i he
      subst he
      cases hb
      exact ⟨.inl h.size, fun hm => by have := h.lt hm; omega, cur, hnew, rfl⟩
    · obtain ⟨k1, k2, c2, k3, k4⟩ := h.own b p hb
      exact ⟨k1, k2, c2, (hpush b (h.own_lt hb)).trans k3, k4⟩

/-- A row of one's own is written. -/
theorem Rel.wrote {w0 w w' : World} {β0 β : List Nat} {m : Mem} {E0 E : Ext} (h : Rel w0 β0 E0 β m E w) {b : Nat} {p : Nat × TypeId} (hb : E.own b = some p) (o : Nat) (cs : List Value) (cur' : Array Value)
    (h1 : w'.os = w.os) (h2 : w'.tape = w.tape) (h3 : w'.output = w.output ∧ w.drawn ≤ w'.drawn) (h4 : w'.heap.size = w.heap.size) (h5 : w'.heap[b]? = some (.cells cur' p.2 (0, 0))) (h6 : cur'.size = p.1) (h7 : ∀ j, j ≠ b → w'.heap[j]? = w.heap[j]?)
    (h8 : ∀ (j : Nat) (v : Value), (if o ≤ j ∧ j < o + cs.length then cs[j - o]? else E ⟨b, j, none⟩) = some v → cur'[j]? = some v) :
    Rel w0 β0 E0 β m (E.upd b o cs) w' := by
  obtain ⟨g1, g2, cur, g3, g4⟩ := h.own b p hb
  have other : ∀ a, a.block ≠ b → (E.upd b o cs) a = E a := fun a ha => by
    unfold Ext.upd
    dsimp only
    rw [if_neg (fun h' => ha h'.1)]
  refine ⟨fun a v ho hv => ?_, h1.trans h.os, h2.trans h.tape, ⟨h3.1.trans h.output.1, dLe_trans h.output.2 (dLe_of h3.2)⟩, by rw [h4]; exact h.size, fun k hk hn ho => ?_, h.pre, h.nodup, h.len, fun i b' c hi hc => ?_, fun a v ha => ?_, h.dom, fun a v ha hl ho => ?_, fun b' q hb' => ?_, h.glob⟩
  · rw [other a]
    · exact h.ge a v ho hv
    · rintro rfl
      have := h.own_none (h.dom a v hv) ho
      rw [hb] at this; cases this
  · rw [h7 k]
    · exact h.old k hk hn ho
    · rintro rfl
      have := h.own_none hk ho
      rw [hb] at this; cases this
  · rw [h7 b' fun e => g2 (by rw [← e]; exact List.mem_of_getElem? hi)]
    exact h.blk i b' c hi hc
  · by_cases hab : a.block = b
    · obtain ⟨blk, off, spot⟩ := a
      simp only at hab
      subst hab
      refine ⟨?_, g2⟩
      cases spot with
      | some sp =>
        have : E ⟨blk, off, some sp⟩ = some v := by simpa [Ext.upd] using ha
        have := (h.ext _ v this).1
        simp [World.cell?, g3] at this
      | none =>
        have h9 := h8 off v (by
          unfold Ext.upd at ha
          dsimp only at ha
          simpa using ha)
        simpa [World.cell?, h5] using h9
    · rw [other a hab] at ha
      obtain ⟨hc, hn⟩ := h.ext a v ha
      exact ⟨(cell_of_block (h7 _ hab)).trans hc, hn⟩
  · rw [other a] at ha
    · exact h.le0 a v ha hl ho
    · rintro rfl
      have := h.own_none hl ho
      rw [hb] at this; cases this
  · by_cases hbb : b' = b
    · subst hbb
      have hq : E.own b' = some q := hb'
      rw [hb] at hq
      cases hq
      exact ⟨g1, g2, cur', h5, h6⟩
    · obtain ⟨k1, k2, c2, k3, k4⟩ := h.own b' q hb'
      exact ⟨k1, k2, c2, (h7 b' hbb).trans k3, k4⟩

theorem Rel.newRow {w0 w : World} {β0 β : List Nat} {m : Mem} {E0 E : Ext} (h : Rel w0 β0 E0 β m E w) (cs : List Value) (t : TypeId) :
    ∃ r : NewRow E cs t, r.b = w.heap.size ∧ Rel w0 β0 E0 β m r.to { w with heap := w.heap.push (.cells cs.toArray t (0, 0)) } := by
  refine ⟨⟨w.heap.size, fun a v ha e => ?_, ?_⟩, rfl, ?_⟩
  · have := cell_lt (h.ext a v ha).1
    omega
  · cases ho : E.own w.heap.size with
    | none => rfl
    | some p => have := h.own_lt ho; omega
  · have := h.row (w' := { w with heap := w.heap.push (.cells cs.toArray t (0, 0)) }) cs cs.toArray t (fun j v hv => by simpa using hv) rfl rfl ⟨rfl, Nat.le_refl _⟩ rfl
    simpa [NewRow.to] using this

theorem arow_sound {dst : Option Tmp} {t : TypeId} {len : Nat} {ps : Array (Nat × Operand)} {type : TypeId} {pos : String} {after : Array Edge} {guard : Option (Nat × Bool)} {fr : List AV} {E : Ext} {k : AV → Ext → Prop} (h : arow P t len ps fr E k)
    {w0 w : World} {β0 β : List Nat} {E0 : Ext} {m : Mem} {a : Act} (hR : Rel w0 β0 E0 β m E w) (hF : CF β fr a.tmps) :
    ∃ x E' w', (execOp a.eval ⟨dst, .buildSlice t len ps, type, pos, after, guard⟩).run P w = .ok (.value x) w' ∧ k (.v x) E' ∧ Rel w0 β0 E0 β m E' w' := by
  unfold arow at h
  split at h
  · rename_i l hl
    split at h
    · rename_i cs e hcs
      unfold abuildS at hcs
      split at hcs
      · rename_i e' he
        split at hcs
        · rename_i n z hn hz
          split at hcs
          · rename_i hb
            simp only [Bool.and_eq_true] at hb
            obtain ⟨hzl, h1, h2⟩ := hb
            have hzl := Nat.eq_of_beq_eq_true hzl
            have h1 := Nat.le_of_ble_eq_true h1
            have h2 := Nat.le_of_ble_eq_true h2
            split at hcs
            · rename_i cs' hf
              cases hcs
              obtain ⟨r, hrb, hr⟩ := hR.newRow cs e
              have h3 := h r
              rw [hrb] at h3
              refine ⟨_, _, _, ?_, h3, hr⟩
              have hps : (ps.map fun x => (x.1, a.eval x.2)) = l.toArray := by
                apply Array.ext'
                rw [Array.toList_map]
                exact parts_eq hF hl
              have hzero : ((Array.range (len * n)).map (z.cells[· % z.cells.size]!)) = (zeroRow z.cells.toList len).toArray := by
                apply Array.ext'
                rw [Array.toList_map, Array.toList_range]
                have := zeroRow_eq (z := z.cells.toList) (n := n) hzl h1 len
                rw [← this]
                apply List.map_congr_left
                intro i _
                simp [getElem!_def, Array.getElem!_eq_getD, Array.getD_eq_getD_getElem?]
              have hfill := afill_eq hf
              simp only [execOp, Sem.run_bind]
              have hpm : (ps.map fun (x : Nat × Operand) => match x with | (i, x) => (i, a.eval x)) = l.toArray := hps
              simp only [Instr.buildSlice, Sem.run_bind, prun_none he w, Result.andThen_ok, prun_none hn w]
              rw [if_neg (by omega)]
              by_cases hln : len * n = 0
              · have hl0 : len = 0 := by
                  rcases Nat.mul_eq_zero.1 hln with h | h
                  · exact h
                  · omega
                subst hl0
                simp only [if_pos hln, Sem.run_bind, Result.andThen_ok, Sem.run_pure]
                have h0 : ((Array.range (0 * n)).map ((#[] : Array Value)[· % (#[] : Array Value).size]!)) = (zeroRow z.cells.toList 0).toArray := by simp [zeroRow]
                rw [h0, hpm]
                simp only [hfill]
                simp [newRow]
              · rw [if_neg hln]
                simp only [Sem.run_bind, prun_none hz w, Result.andThen_ok, Sem.run_pure]
                rw [hzero, hpm]
                simp only [hfill]
                simp [newRow]
            · cases hcs
          · cases hcs
        · cases hcs
      · cases hcs
    · cases h
  · cases h

theorem arow_mono {t : TypeId} {len : Nat} {ps : Array (Nat × Operand)} {fr : List AV} {E : Ext} {k k' : AV → Ext → Prop} (hk : ∀ r E', Ext.le E E' → k r E' → k' r E') (h : arow P t len ps fr E k) : arow P t len ps fr E k' := by
  unfold arow at h ⊢
  split at h
  · split at h
    · exact fun r => hk _ _ r.le (h r)
    · cases h
  · cases h
theorem amake_mono {t : TypeId} {lo co : AV} {E : Ext} {k k' : AV → Ext → Prop} (hk : ∀ r E', Ext.le E E' → k r E' → k' r E') (h : amake P t lo co E k) : amake P t lo co E k' := by
  unfold amake at h ⊢
  split at h
  · split at h
    · split at h
      · split at h
        · split at h
          · exact ⟨h.1, fun r => hk _ _ r.le (h.2 r)⟩
          · cases h
        · cases h
      · cases h
    · cases h
  · cases h
theorem aapp_mono {ts : List TypeId} {as : List AV} {E : Ext} {k k' : AV → Ext → Prop} (hk : ∀ r E', Ext.le E E' → k r E' → k' r E') (h : aapp P ts as E k) : aapp P ts as E k' := by
  unfold aapp at h ⊢
  split at h
  · split at h
    · split at h
      · split at h
        · split at h
          · obtain ⟨y, h1, h2⟩ := h
            exact ⟨y, h1, fun r E' hp => hk _ _ hp.le (h2 r E' hp)⟩
          · cases h
        · cases h
      · cases h
    · cases h
  · cases h
theorem acopy_mono {ts : List TypeId} {as : List AV} {E : Ext} {k k' : AV → Ext → Prop} (hk : ∀ r E', k r E' → k' r E') (h : acopy P ts as E k) : acopy P ts as E k' := by
  unfold acopy at h ⊢
  split at h
  · split at h
    · split at h
      · obtain ⟨y, h1, h2⟩ := h
        exact ⟨y, h1, hk _ _ h2⟩
      · cases h
    · cases h
  · cases h
theorem astore_mono {t : TypeId} {ad : Addr} {y : Value} {E : Ext} {k k' : Ext → Prop} (hk : ∀ E', k E' → k' E') (h : astore P t ad y E k) : astore P t ad y E k' := by
  unfold astore at h ⊢
  split at h
  · split at h
    · exact ⟨h.1, hk _ h.2⟩
    · cases h
  · cases h

theorem cellOk_one {v : Value} (h : cellOk v = true) : v.oneCell' = true := by cases v <;> simp_all [cellOk, Value.oneCell']
theorem setCells_get : ∀ (vs cs : List Value) (o j : Nat), o + vs.length ≤ cs.length → (setCells cs o vs)[j]? = if o ≤ j ∧ j < o + vs.length then vs[j - o]? else cs[j]?
  | [], cs, o, j, _ => by
    rw [if_neg (by simp)]
    rfl
  | v :: r, cs, o, j, h => by
    simp only [List.length_cons] at h ⊢
    simp only [setCells]
    rw [setCells_get r (cs.set o v) (o + 1) j (by simp; omega)]
    by_cases h1 : j = o
    · subst h1
      rw [if_neg (by omega), if_pos (by omega), List.getElem?_set_self (by omega)]
      simp
    · rw [List.getElem?_set_ne (fun e => h1 e.symm)]
      by_cases h2 : o + 1 ≤ j ∧ j < o + 1 + r.length
      · rw [if_pos h2, if_pos (by omega), show j - o = (j - (o + 1)) + 1 by omega, List.getElem?_cons_succ]
      · rw [if_neg h2, if_neg (by omega)]

theorem astore_sound {t : TypeId} {ad : Addr} {y : Value} {E : Ext} {k : Ext → Prop} (h : astore P t ad y E k) {w0 w : World} {β0 β : List Nat} {E0 : Ext} {m : Mem} (hR : Rel w0 β0 E0 β m E w) :
    ∃ E' w', (storeVar t ad y).run P w = .ok () w' ∧ k E' ∧ Rel w0 β0 E0 β m E' w' := by
  unfold astore at h
  split at h
  · rename_i n hn
    split at h
    · rename_i hb
      rw [Bool.and_eq_true] at hb
      have hsz := Nat.eq_of_beq_eq_true hb.1
      obtain ⟨hs, hk⟩ := h
      obtain ⟨hspot, p, hp, hoff⟩ := hs.out
      obtain ⟨g1, g2, cur, g3, g4⟩ := hR.own _ p hp
      obtain ⟨blk, off, spot⟩ := ad
      simp only at hspot hp hoff g2 g3 hk
      subst hspot
      have hlen : off + y.cells.toList.length ≤ cur.toList.length := by rw [hsz]; simp; omega
      obtain ⟨w', h1, h2, h3, h4, h5, h6, h7⟩ := run_stores (P := P) (t := p.2) y.cells.toList cur.toList 0 off w (by simpa using g3) (by simpa using hlen) hb.2
      refine ⟨_, w', ?_, hk, hR.wrote hp off y.cells.toList (setCells cur.toList off y.cells.toList).toArray h2 h3 h4 h5 (by simpa using h6) (by simp [setCells_length, g4]) h7 fun j v hv => ?_⟩
      · simp only [storeVar, Sem.run_bind, prun_none hn w, Result.andThen_ok]
        rw [if_neg (by simpa using hsz)]
        exact h1
      · rw [List.getElem?_toArray, setCells_get _ _ _ _ hlen]
        split at hv
        · rename_i hj
          rw [if_pos hj]; exact hv
        · rename_i hj
          rw [if_neg hj]
          have := (hR.ext _ v hv).1
          simpa [World.cell?, g3] using this
    · cases h
  · cases h

theorem acopy_sound {ts : List TypeId} {as : List AV} {E : Ext} {k : AV → Ext → Prop} (h : acopy P ts as E k) {w0 w : World} {β0 β : List Nat} {E0 : Ext} {m : Mem} (hR : Rel w0 β0 E0 β m E w) (ty : TypeId) {vs : List Value} (hl : as.length = vs.length) (hv : ∀ (i : Nat) (a : AV), as[i]? = some a → ∃ x, vs[i]? = some x ∧ Conc β a x) :
    ∃ x E' w', (Builtin.copy_ ts.toArray ty vs.toArray).run P w = .ok x w' ∧ k (.v x) E' ∧ Rel w0 β0 E0 β m E' w' := by
  unfold acopy at h
  split at h
  · rename_i t ts' a0 n c a' n' c'
    obtain ⟨x0, hx0, hc0⟩ := hv 0 _ rfl
    obtain ⟨x1, hx1, hc1⟩ := hv 1 _ rfl
    have hc0 : x0 = _ := hc0
    have hc1 : x1 = _ := hc1
    subst hc0 hc1
    split at h
    · rename_i e he
      split at h
      · rename_i sz hsz
        rw [normN_eq] at hsz
        obtain ⟨⟨ad, y⟩, hs, hk⟩ := h
        obtain ⟨had, l1, ⟨hspot, p, hp, hoff⟩, l3, l4, l5⟩ := hs.out
        dsimp only at had hspot hp hoff hk l1 l3 l4 l5
        subst had
        obtain ⟨g1, g2, cur, g3, g4⟩ := hR.own _ p hp
        obtain ⟨blk, off, spot⟩ := ad
        simp only at hspot hp hoff g2 g3 hk l1 l3 l4
        subst hspot
        have hlen : off + y.length ≤ cur.toList.length := by simp; omega
        obtain ⟨w', h1, h2, h3, h4, h5, h6, h7⟩ := run_stores (P := P) (t := p.2) y cur.toList 0 off w (by simpa using g3) (by simpa using hlen) (by rw [List.all_eq_true]; exact l5)
        refine ⟨_, _, w', ?_, hk, hR.wrote hp off y (setCells cur.toList off y).toArray h2 h3 h4 h5 (by simpa using h6) (by simp [setCells_length, g4]) h7 fun j v hv => ?_⟩
        · have hload : (Builtin.firstCells sz (min n' n) (.slice a' n' c')).run P w = .ok y.toArray w := by
            cases a' with
            | none =>
              rw [l3 rfl]
              simp [Builtin.firstCells]
            | some a' =>
              have := run_loadCells_list (P := P) (w := w) a' y (fun j v hj => (hR.ext _ v (l4 a' rfl j v hj)).1)
              rw [l1] at this
              exact this
          have hlo : (Builtin.lenOf (.slice a' n' c')).run P w = .ok n' w := by simp [Builtin.lenOf]
          have ht0 : (t :: ts').toArray[0]? = some t := by simp
          have hv0 : vs.toArray[0]? = some (.slice (some ⟨blk, off, none⟩) n c) := by simpa using hx0
          have hv1 : vs.toArray[1]? = some (.slice a' n' c') := by simpa using hx1
          unfold Builtin.copy_
          rw [ht0, hv0, hv1]
          simp only [Sem.run_bind, prun_none he w, Result.andThen_ok, hlo, prun_none hsz w]
          have hload' : (Builtin.firstCells sz (Nat.min n' n) (.slice a' n' c')).run P w = .ok y.toArray w := hload
          rw [hload']
          simp only [Result.andThen_ok, h1, Sem.run_pure]
          rfl
        · rw [List.getElem?_toArray, setCells_get _ _ _ _ hlen]
          split at hv
          · rename_i hj
            rw [if_pos hj]; exact hv
          · rename_i hj
            rw [if_neg hj]
            have := (hR.ext _ v hv).1
            simpa [World.cell?, g3] using this
      · cases h
    · cases h
  · cases h

theorem madeCells_eq {z : Array Value} {n c : Nat} (hz : z.toList.length = n) (hn : 0 < n) : madeCells z (c * n) = (zeroRow z.toList c).toArray := by
  apply Array.ext'
  unfold madeCells
  rw [Array.toList_map, Array.toList_range]
  have := zeroRow_eq (z := z.toList) (n := n) hz hn c
  simp only at *
  rw [← this]
  apply List.map_congr_left
  intro i _
  simp [getElem!_def, Array.getElem!_eq_getD, Array.getD_eq_getD_getElem?]

theorem amake_sound {t : TypeId} {lo co : AV} {E : Ext} {k : AV → Ext → Prop} (h : amake P t lo co E k) {w0 w : World} {β0 β : List Nat} {E0 : Ext} {m : Mem} (hR : Rel w0 β0 E0 β m E w) {u v : Value} (hu : Conc β lo u) (hv : Conc β co v) :
    ∃ x E' w', (Instr.makeSlice t u v).run P w = .ok x w' ∧ k (.v x) E' ∧ Rel w0 β0 E0 β m E' w' := by
  unfold amake at h
  split at h
  · rename_i kl len kc cap
    have hu : u = .int kl len := hu
    have hv : v = .int kc cap := hv
    subst hu hv
    split at h
    · rename_i e he
      split at h
      · rename_i i hi
        split at h
        · rename_i z hz
          split at h
          · rename_i hb
            simp only [Bool.and_eq_true] at hb
            obtain ⟨hzl, h1, h2⟩ := hb
            have hzl := Nat.eq_of_beq_eq_true hzl
            have h1 := Nat.le_of_ble_eq_true h1
            have h2 := Nat.le_of_ble_eq_true h2
            obtain ⟨hs, hk⟩ := h
            obtain ⟨s1, s2, s3⟩ := hs.out
            obtain ⟨r, hrb, hr⟩ := hR.newRow (zeroRow z.cells.toList cap.toNat) e
            have h3 := hk r
            rw [hrb] at h3
            refine ⟨_, _, _, ?_, h3, hr⟩
            have hby : (i.bytes : Int) * cap ≤ 281474976710656 := by
              have : (i.bytes : Int) * cap ≤ 128 * 1099511627776 := Int.mul_le_mul (by omega) s3 (by omega) (by omega)
              omega
            rw [run_make w t e i z he hi hz kl kc len cap s1 s2 hby (by omega), madeCells_eq hzl h1]
            rfl
          · cases h
        · cases h
      · cases h
    · cases h
  · cases h

theorem run_append_none (w : World) (t ty e : TypeId) (i : TypeInfo) (ht : P.underlying t = some (.slice e)) (hi : P.info? e = some i) (a : Option Addr) (n c c' : Nat) (hn : n ≤ c) :
    (Builtin.append_ #[t, t] ty #[.slice a n c, .slice none 0 c']).run P w = .ok (.slice a n c) w := by
  cases a <;> simp [Builtin.append_, run_underlying ht, sizeOf, typeInfo, hi, Builtin.lenOf, hn, run_firstCells_none, storeCells]

theorem upd_app {E : Ext} {b o : Nat} {xs news : List Value} (ho : xs.length = o) (hx : ∀ j, E ⟨b, j, none⟩ = xs[j]?) (j : Nat) : (E.upd b o news) ⟨b, j, none⟩ = (xs ++ news)[j]? := by
  unfold Ext.upd
  dsimp only
  by_cases h : o ≤ j ∧ j < o + news.length
  · rw [if_pos ⟨rfl, rfl, h⟩, List.getElem?_append_right (by omega), ho]
  · rw [if_neg (fun h' => h h'.2.2), hx]
    by_cases h2 : j < xs.length
    · rw [List.getElem?_append_left h2]
    · rw [List.getElem?_eq_none (by omega), List.getElem?_eq_none (by simp; omega)]

theorem aapp_sound {ts : List TypeId} {as : List AV} {E : Ext} {k : AV → Ext → Prop} (h : aapp P ts as E k) {w0 w : World} {β0 β : List Nat} {E0 : Ext} {m : Mem} (hR : Rel w0 β0 E0 β m E w) (ty : TypeId) {vs : List Value} (hl : as.length = vs.length) (hv : ∀ (i : Nat) (a : AV), as[i]? = some a → ∃ x, vs[i]? = some x ∧ Conc β a x) :
    ∃ x E' w', (Builtin.append_ ts.toArray ty vs.toArray).run P w = .ok x w' ∧ k (.v x) E' ∧ Rel w0 β0 E0 β m E' w' := by
  unfold aapp at h
  split at h
  · rename_i t t' a n c a' n' c'
    have hvs : vs = [.slice a n c, .slice a' n' c'] := by
      obtain ⟨x0, h0, e0⟩ := hv 0 _ rfl
      obtain ⟨x1, h1, e1⟩ := hv 1 _ rfl
      cases e0; cases e1
      match vs, hl, h0, h1 with
      | [u, v], _, h0, h1 => cases h0; cases h1; rfl
    subst hvs
    split at h
    · rename_i e htt he
      have htt := Nat.eq_of_beq_eq_true htt
      subst htt
      split at h
      · rename_i i hi
        split at h
        · rename_i z hz
          split at h
          · rename_i hb
            simp only [Bool.and_eq_true] at hb
            obtain ⟨hzl, h1, h2⟩ := hb
            have hzl := Nat.eq_of_beq_eq_true hzl
            have h1 := Nat.le_of_ble_eq_true h1
            have h2 := Nat.le_of_ble_eq_true h2
            obtain ⟨⟨xs, news⟩, hs, hk⟩ := h
            obtain ⟨⟨o1, o2, o3, o4⟩, ⟨r1, r2, r3⟩, hone, hsmall⟩ := hs.out
            dsimp only at o1 o2 o3 o4 r1 r2 r3 hone hsmall
            have hzs : z.cells.size = i.size := by simpa using hzl
            have hmax : n + n' ≤ maxLen := by unfold maxLen; omega
            have hfit : (n + n') * i.bytes ≤ 140737488355328 := by
              have : (n + n') * i.bytes ≤ 1099511627776 * 128 := Nat.mul_le_mul hsmall h2
              omega
            -- a new row
            have grown : ∀ (old : Nat), old < n + n' → ∀ (w' : World), w' = w.drew.alloc (.cells (xs.toArray ++ news.toArray ++ Builtin.zeroCells z.cells (grownCap w (n + n') old e - (n + n'))) e) →
                ∃ E', Rel w0 β0 E0 β m E' w' ∧ AppPost E e i.size ⟨a, n, c⟩ ⟨a', n', c'⟩ (xs, news) ⟨some ⟨w.heap.size, 0, none⟩, n + n', grownCap w (n + n') old e⟩ E' := by
              intro old ho w' hw'
              have hge := grownCap_ge w (n + n') old e
              have hcm : grownCap w (n + n') old e ≤ maxLen := grownCap_le_maxLen w (n + n') old e hmax
              have hsz : (xs.toArray ++ news.toArray ++ Builtin.zeroCells z.cells (grownCap w (n + n') old e - (n + n'))).size = grownCap w (n + n') old e * i.size := by
                simp only [Array.size_append, List.size_toArray, size_zeroCells, hzs, o1, r1, ← Nat.add_mul]
                congr 1
                omega
              have hrow := hR.row (w' := w') (xs ++ news) (xs.toArray ++ news.toArray ++ Builtin.zeroCells z.cells (grownCap w (n + n') old e - (n + n'))) e (fun j v hv => by
                have hl := (List.getElem?_eq_some_iff.1 hv).1
                rw [Array.getElem?_append_left (by simp at hl ⊢; exact hl)]
                simpa using hv) (by subst hw'; rfl) (by subst hw'; rfl) (by subst hw'; exact ⟨rfl, Nat.le_succ _⟩) (by subst hw'; rfl)
              rw [hsz] at hrow
              have hfr : ∀ a' v, E a' = some v → a'.block ≠ w.heap.size := fun a' v hv => by
                have := cell_lt (hR.ext a' v hv).1
                omega
              have hno : E.own w.heap.size = none := by
                cases ho : E.own w.heap.size with
                | none => rfl
                | some p => have := hR.own_lt ho; omega
              refine ⟨_, hrow, ⟨by simp [o1, r1, Nat.add_mul], hge, hcm, .inr ⟨w.heap.size, rfl, by simp [Ext.with], fun j => by simp [Ext.with]⟩⟩, rfl, fun a'' v hv => ?_, fun b p _ hb => ?_, fun a'' ha'' => .inr ?_⟩
              · unfold Ext.with
                dsimp only
                rw [if_neg (fun h' => hfr _ _ hv h'.1)]
                exact hv
              · have hne : b ≠ w.heap.size := fun e => by rw [e, hno] at hb; cases hb
                refine ⟨by simp [Ext.with, hne, hb], fun a'' ha'' => ?_⟩
                unfold Ext.with
                dsimp only
                rw [if_neg (fun h' => hne (ha''.symm.trans h'.1))]
              · cases ha''
                exact ⟨hfr, hno⟩
            cases a' with
            | none =>
              have hn' : n' = 0 := r2 rfl
              subst hn'
              have hnews : news = [] := by
                apply List.eq_nil_of_length_eq_zero
                rw [r1]; simp
              subst hnews
              refine ⟨_, E, w, run_append_none w t ty e i he hi a n c c' o2, hk ⟨a, n, c⟩ E ⟨⟨by simpa using o1, o2, o3, by simpa using o4⟩, rfl, fun _ _ h => h, fun b p _ hb => ⟨hb, fun _ _ => rfl⟩, fun _ h => .inl h⟩, hR⟩
            | some ad =>
              have hnews : ∀ j v, news[j]? = some v → w.cell? (ad.add j) = some v := fun j v hj => (hR.ext _ _ (r3 ad rfl j v hj)).1
              rcases o4 with ⟨rfl, rfl, rfl⟩ | ⟨b, rfl, hb, hxs⟩
              · have hxs : xs = [] := by
                  apply List.eq_nil_of_length_eq_zero
                  rw [o1]; simp
                subst hxs
                rcases Nat.eq_zero_or_pos n' with h0 | h0
                · subst h0
                  have hnews : news = [] := by
                    apply List.eq_nil_of_length_eq_zero
                    rw [r1]; simp
                  subst hnews
                  refine ⟨.slice none 0 0, E, w, ?_, hk ⟨none, 0, 0⟩ E ⟨⟨by simp, Nat.le_refl _, Nat.zero_le _, .inl ⟨rfl, rfl, rfl⟩⟩, rfl, fun _ _ h => h, fun b p _ hb => ⟨hb, fun _ _ => rfl⟩, fun _ h => by cases h⟩, hR⟩
                  have hf := run_firstCells_some (P := P) w i.size 0 ad 0 c' [] (by simp) (fun j v hj => by simp at hj)
                  simp [Builtin.append_, run_underlying he, sizeOf, typeInfo, hi, Builtin.lenOf, hf]
                · rw [Nat.zero_add] at grown hmax hfit
                  have hrun := run_append_nil (P := P) w t ty e i z he hi hz ad n' c' news r1 hnews h0 (by unfold maxLen at hmax; omega) (by omega)
                  obtain ⟨E', hR', hp⟩ := grown 0 h0 _ rfl
                  simp only [Array.empty_append, List.nil_append] at hR'
                  refine ⟨_, E', _, hrun, ?_, by simpa using hR'⟩
                  have := hk _ E' hp
                  simpa [SlV.v] using this
              · obtain ⟨g1, g2, cur, g3, g4⟩ := hR.own b _ hb
                have hcl : n * i.size ≤ c * i.size := Nat.mul_le_mul_right _ o2
                by_cases hroom : n + n' ≤ c
                · have hcl2 : (n + n') * i.size ≤ c * i.size := Nat.mul_le_mul_right _ hroom
                  rw [Nat.add_mul] at hcl2
                  have hrun := run_append_room (P := P) w t ty e i he hi b n c cur g3 ad n' c' news r1 hnews (fun u hu => cellOk_one (hone u hu)) hroom (by rw [r1, g4]; exact hcl2)
                  have hcur : ∀ j, cur[j]? = (E ⟨b, j, none⟩).or cur[j]? := fun j => by
                    cases he : E ⟨b, j, none⟩ with
                    | none => rfl
                    | some v =>
                      have := (hR.ext _ v he).1
                      simpa [World.cell?, g3] using this
                  have hlt : (cur.toList.take (n * i.size)).length = n * i.size := by
                    rw [List.length_take, Array.length_toList, g4]
                    exact Nat.min_eq_left hcl
                  have hsz : (cur.toList.take (n * i.size) ++ news ++ cur.toList.drop (n * i.size + news.length)).toArray.size = c * i.size := by
                    simp only [List.size_toArray, List.length_append, hlt, List.length_drop, Array.length_toList, g4, r1]
                    omega
                  have hR' := hR.wrote (w' := w.setRow b (cur.toList.take (n * i.size) ++ news ++ cur.toList.drop (n * i.size + news.length)).toArray) hb (n * i.size) news _ rfl rfl ⟨rfl, Nat.le_refl _⟩ (by simp [World.setRow]) (by simp only [World.setRow, Array.getElem?_modify, if_pos, g3]; rfl) hsz (fun j hj => by simp only [World.setRow, Array.getElem?_modify]; rw [if_neg (fun e => hj e.symm)]) (fun j v hv => by
                    rw [List.getElem?_toArray]
                    split at hv
                    · rename_i hj
                      rw [List.append_assoc, List.getElem?_append_right (by omega), List.getElem?_append_left (by omega), hlt]
                      exact hv
                    · rename_i hj
                      have hjn : j < n * i.size := by
                        rw [hxs] at hv
                        have := (List.getElem?_eq_some_iff.1 hv).1
                        omega
                      have hcv : cur[j]? = some v := by rw [hcur, hv]; rfl
                      rw [List.append_assoc, List.getElem?_append_left (by omega), List.getElem?_take_of_lt hjn]
                      simpa using hcv)
                  refine ⟨_, _, _, hrun, hk ⟨some ⟨b, 0, none⟩, n + n', c⟩ (E.upd b (n * i.size) news) ⟨⟨by simp [o1, r1, Nat.add_mul], hroom, o3, .inr ⟨b, rfl, hb, upd_app o1 hxs⟩⟩, rfl, fun a'' v hv => ?_, fun b' p hne hb' => ⟨hb', fun a'' ha'' => ?_⟩, fun _ h => .inl h⟩, hR'⟩
                  · unfold Ext.upd
                    dsimp only
                    split
                    · rename_i hj
                      obtain ⟨blk, off, spot⟩ := a''
                      simp only at hj
                      obtain ⟨rfl, rfl, hj1, hj2⟩ := hj
                      rw [hxs] at hv
                      have := (List.getElem?_eq_some_iff.1 hv).1
                      omega
                    · exact hv
                  · unfold Ext.upd
                    dsimp only
                    rw [if_neg (fun h' => hne _ rfl (by simp [← ha'', h'.1]))]
                · have hrun := run_append_grow (P := P) w t ty e i z he hi hz ⟨b, 0, none⟩ n c xs o1 (fun j v hj => by
                      rw [addr_add, Nat.zero_add]
                      exact (hR.ext _ v ((hxs j).trans hj)).1) ad n' c' news r1 hnews (by omega) (by unfold maxLen at hmax; omega) (growslice_fits (by omega) hfit)
                  obtain ⟨E', hR', hp⟩ := grown c (by omega) _ rfl
                  exact ⟨_, E', _, hrun, hk _ E' hp, hR'⟩
          · cases h
        · cases h
      · cases h
    · cases h
  · cases h

theorem aop_sound {T : Tab} {EQ : List (TypeId × Nat)} (hEQ : EqOk P EQ) (hT : T.ok P) {W : List Nat} {o : Oper} {s : St} {K : St → Prop} (h : aop P EQ T W o s K) {w0 w : World} {β0 β : List Nat} {E0 : Ext} {a : Act}
    (hR : Rel w0 β0 E0 β s.m s.E w) (hF : CF β s.fr a.tmps) (hd : a.defers = []) {Kc : Act → World → Prop} {Q : Exit → Act → World → Prop} (hK : AK w0 β0 E0 K Kc) : o.wp P a w Kc Q := by
  unfold aop at h
  unfold Oper.wp
  split at h
  · obtain ⟨x, r, hx, hc, hk⟩ := ay_sound hEQ h hR hF
    rw [hx]
    exact hK.put hk hR hF hd hc
  · rename_i hq
    clear hq
    obtain ⟨dst, op, type, pos, after, guard⟩ := o
    cases op <;> unfold aact at h <;> simp only at h
    case alloc t =>
      split at h
      · rename_i z hz
        have hrun : (execOp a.eval ⟨dst, .alloc t, type, pos, after, guard⟩).run P w = .ok (.value (.pointer (some ⟨w.heap.size, 0, none⟩))) { w with heap := w.heap.push (.cells z.cells t (0, 0)) } := by
          simp [execOp, Instr.alloc, prun_none hz w, newVar, newRow]
        rw [hrun]
        split at h
        · obtain ⟨r, hrb, hr⟩ := hR.newRow z.cells.toList t
          have h1 := h r
          rw [hrb] at h1
          simp only [Array.toArray_toList] at hr
          exact hK.put (s := { s with E := r.to }) h1 hr hF hd rfl
        · have hp := hR.push z.cells.toList t
          simp only [Array.toArray_toList] at hp
          exact hK.put (s := { s with m := s.m ++ [(z.cells.toList, t)] }) h hp hF.mono hd ⟨w.heap.size, by rw [← hR.len]; simp, rfl⟩
      · cases h
    case box t x =>
      have hc := hF.ev x
      cases hv : ev s.fr x with
      | p i k => rw [hv] at h; cases h
      | v y =>
        rw [hv] at h hc
        have hx : a.eval x = y := hc
        have hrun : (execOp a.eval ⟨dst, .box t x, type, pos, after, guard⟩).run P w = .ok (.value (.pointer (some ⟨w.heap.size, 0, none⟩))) { w with heap := w.heap.push (.cells y.cells t (0, 0)) } := by
          simp [execOp, Instr.box, newVar, newRow, hx]
        rw [hrun]
        simp only at h
        split at h
        · obtain ⟨r, hrb, hr⟩ := hR.newRow y.cells.toList t
          have h1 := h r
          rw [hrb] at h1
          simp only [Array.toArray_toList] at hr
          exact hK.put (s := { s with E := r.to }) h1 hr hF hd rfl
        · have hp := hR.push y.cells.toList t
          simp only [Array.toArray_toList] at hp
          exact hK.put (s := { s with m := s.m ++ [(y.cells.toList, t)] }) h hp hF.mono hd ⟨w.heap.size, by rw [← hR.len]; simp, rfl⟩
    case store t y x =>
      have hcy := hF.ev y
      have hcx := hF.ev x
      cases hvx : ev s.fr x with
      | p j l => rw [hvx] at h; cases h
      | v u =>
        rw [hvx] at h hcx
        have hx : a.eval x = u := hcx
        simp only at h
        cases hvy : ev s.fr y with
        | v q =>
          rw [hvy] at h hcy
          have hy : a.eval y = q := hcy
          split at h
          · rename_i h1; cases h1
          · rename_i ad h1
            cases h1
            obtain ⟨E', w', hrun', hk, hR'⟩ := astore_sound h hR
            have hrun : (execOp a.eval ⟨dst, .store t y x, type, pos, after, guard⟩).run P w = .ok .skip w' := by
              simp only [execOp, Instr.storeAt, Sem.run_bind, hy, hx, Instr.sureAddr, Sem.run_pure, Result.andThen_ok, hrun']
            rw [hrun]
            exact hK.put (s := { s with E := E' }) hk.2 hR' hF hd rfl
          · cases h
        | p i k =>
          rw [hvy] at h hcy
          obtain ⟨b, hb, hyv⟩ := hcy
          simp only at h
          split at h
          · rename_i c n hm hn
            split at h
            case h_2 => cases h
            rename_i hbs
            simp only [Bool.and_eq_true] at hbs
            obtain ⟨_, hsz, hl, hok⟩ := hbs
            have hsz := Nat.eq_of_beq_eq_true hsz
            have hl := Nat.le_of_ble_eq_true hl
            obtain ⟨w', h1, h2, h3, h4, h5, h6, h7⟩ := run_stores (P := P) (t := c.2) u.cells.toList c.1 0 k w (hR.blk i b c hb hm) (by omega) hok
            have hrun : (execOp a.eval ⟨dst, .store t y x, type, pos, after, guard⟩).run P w = .ok .skip w' := by
              simp only [execOp, Instr.storeAt, Sem.run_bind, hyv, hx, Instr.sureAddr, Sem.run_pure, Result.andThen_ok, storeVar, prun_none hn w]
              rw [if_neg (by simpa using hsz)]
              simp [h1]
            rw [hrun]
            exact hK.put (s := { s with m := s.m.set i (setCells c.1 k u.cells.toList, c.2) }) h (hR.store hb hm h2 h3 h4 h5 (by simpa using h6) h7) hF hd rfl
          · cases h
    case buildSlice t n ps =>
      obtain ⟨x, E', w', hrun, hk, hr⟩ := arow_sound (dst := dst) (type := type) (pos := pos) (after := after) (guard := guard) h hR hF
      rw [hrun]
      exact hK.put (s := { s with E := E' }) hk hr hF hd rfl
    case makeSlice t lo co =>
      obtain ⟨x, E', w', hrun', hk, hR'⟩ := amake_sound h hR (hF.ev lo) (hF.ev co)
      have hrun : (execOp a.eval ⟨dst, .makeSlice t lo co, type, pos, after, guard⟩).run P w = .ok (.value x) w' := by
        simp only [execOp, Sem.run_bind, hrun', Result.andThen_ok, Sem.run_pure]
      rw [hrun]
      exact hK.put (s := { s with E := E' }) hk hR' hF hd rfl
    case call c =>
      cases hcal : c.callee with
      | builtin b =>
        rw [hcal] at h
        cases b <;> simp only at h
        case copy =>
          obtain ⟨x, E', w', hrun', hk, hR'⟩ := acopy_sound h hR type (vs := c.args.toList.map a.eval) (by simp) (fun i av hi => by
            rw [List.getElem?_map] at hi
            cases hu : c.args.toList[i]? with
            | none => rw [hu] at hi; cases hi
            | some u =>
              rw [hu] at hi
              cases hi
              exact ⟨a.eval u, by rw [List.getElem?_map, hu]; rfl, hF.ev u⟩)
          have hrun : (execOp a.eval ⟨dst, .call c, type, pos, after, guard⟩).run P w = .ok (.value x) w' := by
            have hargs : c.args.map a.eval = (c.args.toList.map a.eval).toArray := by apply Array.ext'; simp
            simp only [Array.toArray_toList] at hrun'
            simp only [execOp, Sem.run_bind, resolve, hcal, Sem.run_pure, Result.andThen_ok, invoke, builtin, hargs, hrun']
          rw [hrun]
          exact hK.put (s := { s with E := E' }) hk.2 hR' hF hd rfl
        case append =>
          obtain ⟨x, E', w', hrun', hk, hR'⟩ := aapp_sound h hR type (vs := c.args.toList.map a.eval) (by simp) (fun i av hi => by
            rw [List.getElem?_map] at hi
            cases hu : c.args.toList[i]? with
            | none => rw [hu] at hi; cases hi
            | some u =>
              rw [hu] at hi
              cases hi
              exact ⟨a.eval u, by rw [List.getElem?_map, hu]; rfl, hF.ev u⟩)
          have hrun : (execOp a.eval ⟨dst, .call c, type, pos, after, guard⟩).run P w = .ok (.value x) w' := by
            have hargs : c.args.map a.eval = (c.args.toList.map a.eval).toArray := by apply Array.ext'; simp
            simp only [Array.toArray_toList] at hrun'
            simp only [execOp, Sem.run_bind, resolve, hcal, Sem.run_pure, Result.andThen_ok, invoke, builtin, hargs, hrun']
          rw [hrun]
          exact hK.put (s := { s with E := E' }) hk hR' hF hd rfl
        all_goals cases h
      | invoke x n => rw [hcal] at h; cases h
      | value f =>
        rw [hcal] at h
        simp only at h
        have hcf := hF.ev f
        split at h
        · rename_i g first captured hvf
          rw [hvf] at hcf
          have hf : a.eval f = .func (.func g) first captured := hcf
          split at h
          · rename_i sp hsp
            obtain ⟨hen, hok⟩ := Tab.ok_find hT hsp
            have hrun : (execOp a.eval ⟨dst, .call c, type, pos, after, guard⟩).run P w = .ok (.enter g ((first ++ c.args.map a.eval) ++ captured)) w := by
              simp only [execOp, Sem.run_bind, resolve, hcal, Deferred.ofValue, hf, Sem.run_pure, Result.andThen_ok, invoke]
              exact hen.run _ w
            rw [hrun]
            simp only [Oper.upon]
            have hrel : Rel w β s.E β s.m s.E w := hR.self
            refine (hok _ _ _ _ h w β _ hrel ?_ ?_).mono fun e w' hp => ?_
            · simp
            · intro i av hi
              by_cases h1 : i < first.size
              · refine ⟨first[i], by rw [Array.getElem?_append_left (by simp; omega), Array.getElem?_append_left h1, Array.getElem?_eq_getElem h1], ?_⟩
                rw [List.append_assoc, List.getElem?_append_left (by simpa using h1)] at hi
                simp [h1] at hi
                subst hi
                rfl
              · by_cases h2 : i < first.size + c.args.size
                · refine ⟨a.eval (c.args[i - first.size]'(by omega)), by rw [Array.getElem?_append_left (by simp; omega), Array.getElem?_append_right (by omega)]; have h3 : i - first.size < c.args.size := (by omega); rw [Array.getElem?_map, Array.getElem?_eq_getElem h3]; rfl, ?_⟩
                  rw [List.getElem?_append_left (by simp; omega), List.getElem?_append_right (by simp; omega)] at hi
                  have h3 : i - first.size < c.args.size := by omega
                  simp [h3] at hi
                  subst hi
                  exact hF.ev _
                · rw [List.getElem?_append_right (by simp; omega)] at hi
                  have h3 : i - (first.size + c.args.size) < captured.size := by
                    have := (List.getElem?_eq_some_iff.1 hi).1
                    simpa using this
                  refine ⟨captured[i - (first.size + c.args.size)], by rw [Array.getElem?_append_right (by simp; omega)]; simp [h3], ?_⟩
                  simp [h3] at hi
                  subst hi
                  rfl
            · obtain ⟨r, m', E', β', x, rfl, hc, hrel', _, _, hk⟩ := hp
              have hpre : ∃ γ, β' = β ++ γ := let ⟨γ, h, _⟩ := hrel'.pre; ⟨γ, h⟩
              obtain ⟨γ, rfl⟩ := hpre
              exact hK.put (s := { s with m := m', E := E' }) hk (hR.trans hrel') hF.mono hd hc
          · cases h
        · cases h
    all_goals cases h

theorem wanted_eq {β : List Nat} {s : St} {a : Act} (hF : CF β s.fr a.tmps) (ops : Array Oper) (o : Oper) : Region.wanted o (yielded ops a.tmps) = Region.wanted o (ayielded ops s.fr) := by
  rw [hF.yielded]

theorem put_same {s : St} {t : Tmp} {b : Bool} (h : aboolAt s.fr t = some b) : s.put (some t) (.v (.bool b)) = s := by
  unfold aboolAt at h
  split at h
  · rename_i c hc
    cases h
    unfold St.put
    simp only
    have : s.fr.set t (.v (.bool b)) = s.fr := by
      apply List.ext_getElem?
      intro j
      by_cases hj : t = j
      · subst hj
        rw [List.getElem?_set_self (List.getElem?_eq_some_iff.1 hc).1, hc]
      · rw [List.getElem?_set_ne hj]
    rw [this]
  · cases h

theorem eguard_or {ops : Array Oper} {o : Oper} {s : St} {A B : St → Prop} (h : eguard ops o s A B) :
    (Region.wanted o (ayielded ops s.fr) = true ∧ A s) ∨ (Region.wanted o (ayielded ops s.fr) = false ∧ B s) := by
  unfold eguard at h
  cases hg : o.guard with
  | none => rw [hg] at h; exact .inl ⟨by unfold Region.wanted; rw [hg], h⟩
  | some gw =>
    obtain ⟨j, want⟩ := gw
    rw [hg] at h
    have hw : Region.wanted o (ayielded ops s.fr) = (ayielded ops s.fr j == some want) := by unfold Region.wanted; rw [hg]
    rw [hw]
    clear hw
    simp only at h
    unfold ayielded
    cases ht : (ops[j]?).bind (·.dst) with
    | none =>
      rw [ht] at h
      exact .inr ⟨rfl, h⟩
    | some t =>
      rw [ht] at h
      simp only at h ⊢
      cases hb : aboolAt s.fr t with
      | none =>
        rw [hb] at h
        exact .inr ⟨rfl, h⟩
      | some b =>
        rw [hb] at h
        simp only at h
        cases want
        · simp only at h
          cases b
          · refine .inl ⟨by simp, ?_⟩
            have := h.1 rfl
            rw [put_same hb] at this
            exact this
          · refine .inr ⟨by simp, ?_⟩
            have := h.2 rfl
            rw [put_same hb] at this
            exact this
        · simp only at h
          cases b
          · refine .inr ⟨by simp, ?_⟩
            have := h.2 rfl
            rw [put_same hb] at this
            exact this
          · refine .inl ⟨by simp, ?_⟩
            have := h.1 rfl
            rw [put_same hb] at this
            exact this

theorem eguard_imp {ops : Array Oper} {o : Oper} {s : St} {A B : St → Prop} (h : eguard ops o s A B) : if Region.wanted o (ayielded ops s.fr) then A s else B s := by
  rcases eguard_or h with ⟨hw, h⟩ | ⟨hw, h⟩
  · rw [if_pos hw]; exact h
  · rw [if_neg (by simp [hw])]; exact h

theorem eopAt_imp {EQ : List (TypeId × Nat)} {T : Tab} {W : List Nat} {ops : Array Oper} {o : Oper} {s : St} {K : St → Prop} (h : eopAt P EQ T W ops o s K) : aopAt P EQ T W ops o s K :=
  eguard_imp h

theorem aopAt_sound {T : Tab} {EQ : List (TypeId × Nat)} (hEQ : EqOk P EQ) (hT : T.ok P) {W : List Nat} {ops : Array Oper} {i : Nat} {o : Oper} (hi : ops[i]? = some o) {s : St} {K : St → Prop} (h : aopAt P EQ T W ops o s K) {w0 w : World} {β0 β : List Nat} {E0 : Ext} {a : Act}
    (hR : Rel w0 β0 E0 β s.m s.E w) (hF : CF β s.fr a.tmps) (hd : a.defers = []) {Kc : Act → World → Prop} {Q : Exit → Act → World → Prop} (hK : AK w0 β0 E0 K Kc) : wpOp P ops Q i Kc a w := by
  unfold aopAt at h
  unfold wpOp
  simp only [hi, wanted_eq hF]
  split
  · rename_i hw
    rw [if_pos hw] at h
    exact .inl (aop_sound hEQ hT h hR hF hd hK)
  · rename_i hw
    rw [if_neg hw] at h
    exact hK.put h hR hF hd rfl

theorem aops_sound {T : Tab} {EQ : List (TypeId × Nat)} (hEQ : EqOk P EQ) (hT : T.ok P) {ops : Array Oper} {Q : Exit → Act → World → Prop} {w0 : World} {β0 : List Nat} {E0 : Ext} {K : St → Prop} (hK : AK w0 β0 E0 K (Q .normal)) :
    ∀ (l : List Oper) (k : Nat), (∀ j, l[j]? = ops[k + j]?) → ∀ (s : St), aops P EQ T ops l s K → ∀ (w : World) (β : List Nat) (a : Act), Rel w0 β0 E0 β s.m s.E w → CF β s.fr a.tmps → a.defers = [] →
      wpOps P ops Q ((List.range l.length).map (k + ·)) a w
  | [], k, _, s, h, w, β, a, hR, hF, hd => by simpa [wpOps] using hK s β a w h hR hF hd
  | o :: l, k, hl, s, h, w, β, a, hR, hF, hd => by
    have h0 : ops[k]? = some o := by simpa using (hl 0).symm
    rw [List.length_cons, List.range_succ_eq_map, List.map_cons, wpOps_cons]
    have hr : (List.map (fun x => k + x) (List.map Nat.succ (List.range l.length))) = (List.range l.length).map ((k + 1) + ·) := by
      rw [List.map_map]
      apply List.map_congr_left
      intro j _
      show k + (j + 1) = k + 1 + j
      omega
    rw [hr]
    exact aopAt_sound hEQ hT (Q := Q) h0 (eopAt_imp h) hR hF hd (K := fun s' => aops P EQ T ops l s' K) fun s' β' a' w' hk hR' hF' hd' =>
      aops_sound hEQ hT hK l (k + 1) (fun j => by have := hl (j + 1); simpa [Nat.add_assoc, Nat.add_comm 1 j] using this) s' hk w' β' a' hR' hF' hd'

end Go.Proofs.Ytjibkphhlflpeaa.Ab

namespace Go.Proofs.Ytjibkphhlflpeaa.Ab
variable {P : Program} {EQ : List (TypeId × Nat)} {ops : Array Oper} {T : Tab}

theorem keepAll_get {m m' : Mem} : ∀ {W : List Nat}, keepAll m m' W → ∀ i, i ∈ W → m'[i]? = m[i]?
  | [], _, _, hi => by cases hi
  | j :: W, h, i, hi => by
    rcases List.mem_cons.1 hi with hi | hi
    · rw [hi]; exact h.1.out
    · exact keepAll_get h.2 i hi
theorem keepAll_mk {m m' : Mem} : ∀ {W : List Nat}, (∀ i, i ∈ W → m'[i]? = m[i]?) → keepAll m m' W
  | [], _ => trivial
  | j :: W, h => ⟨.mk (h j List.mem_cons_self), keepAll_mk fun i hi => h i (List.mem_cons_of_mem _ hi)⟩

theorem ev_put {s : St} {dst : Option Tmp} {r : AV} {x : Operand} (h : ∀ d, dst = some d → x ≠ .tmp d) : ev (s.put dst r).fr x = ev s.fr x := by
  cases dst with
  | none => rfl
  | some d =>
    cases x with
    | tmp t =>
      have hne : d ≠ t := fun e => h d rfl (e ▸ rfl)
      simp only [ev, St.put, List.getD_eq_getElem?_getD, List.getElem?_set_ne hne]
    | _ => rfl

theorem mem_looks {o : Oper} {t : Tmp} (h : Operand.tmp t ∈ o.op.operands) : t ∈ o.looksAt ops :=
  List.mem_append_left _ (List.mem_filterMap.2 ⟨.tmp t, by simpa using h, rfl⟩)

theorem ev_put_op {s : St} {dst : Option Tmp} {r : AV} {o : Oper} (h : ∀ d, dst = some d → d ∉ o.looksAt ops) : ∀ x ∈ o.op.operands, ev (s.put dst r).fr x = ev s.fr x :=
  fun x hx => ev_put fun d hd hxd => h d hd (by subst hxd; exact mem_looks hx)

theorem awanted_put {s : St} {dst : Option Tmp} {r : AV} {o : Oper} (h : ∀ d, dst = some d → d ∉ o.looksAt ops) :
    Region.wanted o (ayielded ops (s.put dst r).fr) = Region.wanted o (ayielded ops s.fr) := by
  cases dst with
  | none => rfl
  | some d =>
    unfold Region.wanted
    cases hg : o.guard with
    | none => rfl
    | some gw =>
      obtain ⟨g, want⟩ := gw
      have hy : ayielded ops (s.put (some d) r).fr g = ayielded ops s.fr g := by
        unfold ayielded
        cases ht : (ops[g]?).bind (·.dst) with
        | none => rfl
        | some t =>
          have hne : d ≠ t := fun e => h d rfl (by subst e; simp [Oper.looksAt, hg, ht])
          simp only [aboolAt, St.put, List.getElem?_set_ne hne]
      simp only [hy]

theorem St.put_comm (s : St) {x y : Option Tmp} (v u : AV) (h : ∀ d, x = some d → y ≠ some d) : (s.put x v).put y u = (s.put y u).put x v := by
  cases x with
  | none => rfl
  | some d =>
    cases y with
    | none => rfl
    | some e =>
      have hne : d ≠ e := fun he => h d rfl (he ▸ rfl)
      simp only [St.put, List.set_comm _ _ hne]

theorem St.put_with (s : St) (d : Option Tmp) (r : AV) (m : Mem) (E : Ext) : ({ s.put d r with m := m, E := E } : St) = ({ s with m := m, E := E } : St).put d r := by
  cases d <;> rfl

theorem gen_keep {o : Oper} {s s' : St} {k : AV → Prop} (h : gen P o s k) (he : ∀ x ∈ o.op.operands, ev s'.fr x = ev s.fr x) : gen P o s' k := by
  unfold gen at h ⊢
  split at h
  · rename_i hall
    rw [Bool.and_eq_true] at hall
    obtain ⟨hs, hall⟩ := hall
    have hall' : (o.op.operands.toList.all fun x => (ev s'.fr x).plain) = true := by
      rw [List.all_eq_true] at hall ⊢
      intro x hx
      rw [he x (by simpa using hx)]
      exact hall x hx
    have hb : (noSel o && o.op.operands.toList.all fun x => (ev s'.fr x).plain) = true := by rw [Bool.and_eq_true]; exact ⟨hs, hall'⟩
    rw [hb]
    simp only
    have hc : execOp (rho s'.fr) o = execOp (rho s.fr) o := execOp_congr o (fun cs b e => by simp [noSel, e] at hs) fun x hx => by unfold rho; rw [he x hx]
    rw [hc]
    exact h
  · cases h

theorem parts_congr {fr fr' : List AV} : ∀ (l : List (Nat × Operand)), (∀ x ∈ l.map (·.2), ev fr' x = ev fr x) → parts fr' l = parts fr l
  | [], _ => rfl
  | (i, x) :: r, h => by
    unfold parts
    rw [h x (by simp), parts_congr r (fun y hy => h y (by simp at hy ⊢; exact .inr hy))]
theorem plainsOf_congr {fr fr' : List AV} : ∀ (l : List Operand), (∀ x ∈ l, ev fr' x = ev fr x) → plainsOf fr' l = plainsOf fr l
  | [], _ => rfl
  | x :: r, h => by
    unfold plainsOf
    rw [h x List.mem_cons_self, plainsOf_congr r (fun y hy => h y (List.mem_cons_of_mem _ hy))]

theorem arow_keep {t : TypeId} {len : Nat} {ps : Array (Nat × Operand)} {fr fr' : List AV} {E : Ext} {k : AV → Ext → Prop} (h : arow P t len ps fr E k) (he : ∀ x ∈ ps.toList.map (·.2), ev fr' x = ev fr x) : arow P t len ps fr' E k := by
  unfold arow at h ⊢
  rw [parts_congr _ he]
  exact h

theorem gen_pick {o : Oper} {s : St} {k : AV → Prop} (h : gen P o s k) : ∃ r, gen P o s (fun r' => r' = r) ∧ k r := by
  unfold gen at h ⊢
  split at h
  · split at h
    · exact ⟨_, rfl, h⟩
    · cases h
  · cases h

theorem gen_mono {o : Oper} {s : St} {k k' : AV → Prop} (hk : ∀ r, k r → k' r) (h : gen P o s k) : gen P o s k' := by
  obtain ⟨r, hr, h⟩ := gen_pick h
  unfold gen at hr ⊢
  split at hr
  · split at hr
    · subst hr; exact hk _ h
    · cases hr
  · cases hr

theorem eloads_keep {E E' : Ext} (hE : Ext.le E E') {a : Addr} : ∀ (n i : Nat) (k : List Value → Prop), eloads E a i n k → eloads E' a i n k
  | 0, i, k, h => h
  | n + 1, i, k, h => let ⟨v, hv, h⟩ := h; ⟨v, .mk (hE _ _ hv.out), eloads_keep hE n (i + 1) _ h⟩
theorem eloads_pick {E : Ext} {a : Addr} : ∀ (n i : Nat) (k : List Value → Prop), eloads E a i n k → ∃ l, k l ∧ ∀ k' : List Value → Prop, k' l → eloads E a i n k'
  | 0, i, k, h => ⟨[], h, fun _ h => h⟩
  | n + 1, i, k, h => by
    obtain ⟨v, hv, h⟩ := h
    obtain ⟨l, hk, hl⟩ := eloads_pick n (i + 1) _ h
    exact ⟨v :: l, hk, fun k' h' => ⟨v, hv, hl _ h'⟩⟩
theorem eload_keep {E E' : Ext} (hE : Ext.le E E') {t : TypeId} {a : Addr} {k : AV → Prop} (h : eload P E t a k) : eload P E' t a k := by
  unfold eload at h ⊢
  split at h
  · exact eloads_keep hE _ _ _ h
  · obtain ⟨v, hv, h⟩ := h; exact ⟨v, .mk (hE _ _ hv.out), h⟩
  · cases h
theorem eload_pick {E : Ext} {t : TypeId} {a : Addr} {k : AV → Prop} (h : eload P E t a k) : ∃ r, k r ∧ ∀ k' : AV → Prop, k' r → eload P E t a k' := by
  unfold eload at h ⊢
  split at h
  · obtain ⟨l, hk, hl⟩ := eloads_pick _ _ _ h; exact ⟨_, hk, fun k' h' => hl _ h'⟩
  · obtain ⟨v, hv, h⟩ := h; exact ⟨_, h, fun k' h' => ⟨v, hv, h'⟩⟩
  · cases h

theorem optI_congr {fr fr' : List AV} {o : Option Operand} {d : Int} (h : ∀ x, o = some x → ev fr' x = ev fr x) : optI fr' o d = optI fr o d := by
  cases o with
  | none => rfl
  | some x => simp only [optI, h x rfl]
theorem ay_keep {o : Oper} {s s' : St} {k : AV → Prop} (h : ay P EQ o s k) (he : ∀ x ∈ o.op.operands, ev s'.fr x = ev s.fr x) (hE : rdE o s.fr = true → Ext.le s.E s'.E)
    (hm : ∀ j, wid o s.fr = some j → s'.m[j]? = s.m[j]?) : ay P EQ o s' k := by
  have hgen : gen P o s k → gen P o s' k := fun h => gen_keep h he
  obtain ⟨dst, op, type, pos, after, guard⟩ := o
  cases op <;> unfold ay at h ⊢ <;> simp only at h ⊢
  case move x => rw [he x (by simp [Op.operands])]; exact h
  case assign x => rw [he x (by simp [Op.operands])]; exact h
  case pick c y z => rw [he c (by simp [Op.operands]), he y (by simp [Op.operands]), he z (by simp [Op.operands])]; exact h
  case nilCheck x =>
    rw [he x (by simp [Op.operands])]
    cases hv : ev s.fr x with
    | v u => rw [hv] at h; exact hgen h
    | p i k => rw [hv] at h; exact h
  case fieldAddr t x f =>
    rw [he x (by simp [Op.operands])]
    split at h
    · exact h
    · exact h
    · exact hgen h
  case load t x =>
    rw [he x (by simp [Op.operands])]
    split at h
    · rename_i i j hv
      have hmi := hm i (by simp [wid, hv])
      unfold aload at h ⊢
      rw [hmi]
      exact h
    · rename_i ad hv
      exact eload_keep (hE (by simp [rdE, hv])) h
    · cases h
  case indexAddr t x ix => rw [he x (by simp [Op.operands]), he ix (by simp [Op.operands])]; exact h
  case slice t x lo hi mx =>
    have hlo : ∀ d, optI s'.fr lo d = optI s.fr lo d := fun d => optI_congr fun y hy => he y (by simp [Op.operands, hy])
    have hhi : ∀ d, optI s'.fr hi d = optI s.fr hi d := fun d => optI_congr fun y hy => he y (by simp [Op.operands, hy])
    rw [he x (by simp [Op.operands]), hlo 0]
    cases mx with
    | some y => exact h
    | none =>
      simp only at h ⊢
      split at h
      · split at h
        · split at h
          · exact h
          · rename_i y
            rw [he y (by simp [Op.operands])]
            exact h
        · cases h
      · rw [hhi]; exact h
      · cases h
  case convert t t' x =>
    rw [he x (by simp [Op.operands])]
    split at h
    · rename_i ad n c hv
      have hle := hE (by simp [rdE, hv])
      split at h
      · obtain ⟨ns, hs, h⟩ := h
        obtain ⟨g1, g2, g3⟩ := hs.out
        exact ⟨ns, .mk ⟨g1, g2, fun ad' ha j m hm => hle _ _ (g3 ad' ha j m hm)⟩, h⟩
      · cases h
    · exact hgen h
  case index t x ix => rw [he x (by simp [Op.operands]), he ix (by simp [Op.operands])]; exact h
  case binOp b t x y yt =>
    rw [he x (by simp [Op.operands]), he y (by simp [Op.operands])]
    split at h
    · exact h
    · exact h
    · exact h
    · exact h
    · exact h
    · exact hgen h
  case build t ps =>
    rw [parts_congr ps.toList (fun x hx => he x (by simpa [Op.operands] using hx))]
    exact h
  case call c =>
    cases hcal : c.callee with
    | builtin b =>
      rw [hcal] at h
      simp only at h ⊢
      rw [plainsOf_congr c.args.toList (fun x hx => he x (by simpa [Op.operands, Call.operands, hcal] using hx))]
      exact h
    | value f => rw [hcal] at h; cases h
    | invoke x n => rw [hcal] at h; cases h
  all_goals exact hgen h

theorem rdE_eq {o : Oper} {fr fr' : List AV} (he : ∀ x ∈ o.op.operands, ev fr' x = ev fr x) : rdE o fr' = rdE o fr := by
  unfold rdE
  split
  · rename_i t x hop
    rw [he x (by simp [hop, Op.operands])]
  · rename_i t t' x hop
    rw [he x (by simp [hop, Op.operands])]
  · rfl
theorem keepE_get {W : List Nat} {E E' : Ext} (h : keepE W E E') (hW : EF ∈ W) : Ext.le E E' := by
  unfold keepE at h
  rw [List.contains_iff_mem.2 hW] at h
  exact h.out
theorem keepE_mk {W : List Nat} {E E' : Ext} (h : EF ∈ W → Ext.le E E') : keepE W E E' := by
  unfold keepE
  split
  · rename_i hc
    exact .mk (h (List.contains_iff_mem.1 hc))
  · trivial
theorem keepE_sub {W W' : List Nat} {E E' : Ext} (hs : ∀ i, i ∈ W → i ∈ W') (h : keepE W' E E') : keepE W E E' := keepE_mk fun hW => keepE_get h (hs _ hW)

theorem ay_pick {o : Oper} {s : St} {k : AV → Prop} (h : ay P EQ o s k) : ∃ r, k r ∧ ∀ k' : AV → Prop, k' r → ay P EQ o s k' := by
  have hgen : gen P o s k → ∃ r, k r ∧ ∀ k' : AV → Prop, k' r → gen P o s k' := fun h => by
    obtain ⟨r, hr, hk⟩ := gen_pick h
    exact ⟨r, hk, fun k' h' => gen_mono (fun r' e => by rw [e]; exact h') hr⟩
  obtain ⟨dst, op, type, pos, after, guard⟩ := o
  cases op <;> unfold ay at h ⊢ <;> simp only at h ⊢
  case move x => exact ⟨_, h, fun _ h => h⟩
  case assign x => exact ⟨_, h, fun _ h => h⟩
  case pick c y z =>
    split at h
    · exact ⟨_, h, fun _ h => h⟩
    · cases h
  case nilCheck x =>
    split at h
    · exact ⟨_, h, fun _ h => h⟩
    · exact hgen h
  case fieldAddr t x f =>
    split at h
    · split at h
      · exact ⟨_, h, fun _ h => h⟩
      · cases h
    · split at h
      · exact ⟨_, h, fun _ h => h⟩
      · cases h
    · exact hgen h
  case load t x =>
    split at h
    · split at h
      · exact ⟨_, h, fun _ h => h⟩
      · cases h
    · exact eload_pick h
    · cases h
  case indexAddr t x ix =>
    split at h
    · split at h
      · exact ⟨_, h.2, fun _ h' => ⟨h.1, h'⟩⟩
      · cases h
    · split at h
      · exact ⟨_, h.2, fun _ h' => ⟨h.1, h'⟩⟩
      · cases h
    · split at h
      · exact ⟨_, h.2, fun _ h' => ⟨h.1, h'⟩⟩
      · cases h
    · cases h
  case slice t x lo hi mx =>
    split at h
    · cases h
    · split at h
      · split at h
        · split at h
          · exact ⟨_, h.2, fun _ h' => ⟨h.1, h'⟩⟩
          · split at h
            · exact ⟨_, h.2, fun _ h' => ⟨h.1, h'⟩⟩
            · cases h
        · cases h
      · split at h
        · exact ⟨_, h.2, fun _ h' => ⟨h.1, h'⟩⟩
        · cases h
      · cases h
  case convert t t' x =>
    split at h
    · split at h
      · obtain ⟨c, hc, h⟩ := h; exact ⟨_, h, fun _ h' => ⟨c, hc, h'⟩⟩
      · cases h
    · exact hgen h
  case index t x ix =>
    split at h
    · split at h
      · obtain ⟨c, hc, h⟩ := h; exact ⟨_, h, fun _ h' => ⟨c, hc, h'⟩⟩
      · cases h
    · cases h
  case binOp b t x y yt =>
    split at h
    · split at h
      · exact ⟨_, h.2, fun _ h' => ⟨h.1, h'⟩⟩
      · cases h
    · split at h
      · exact ⟨_, h.2, fun _ h' => ⟨h.1, h'⟩⟩
      · cases h
    · exact ⟨_, h.2, fun _ h' => ⟨h.1, h'⟩⟩
    · split at h
      · exact ⟨_, h, fun _ h => h⟩
      · cases h
    · split at h
      · exact ⟨_, h, fun _ h => h⟩
      · cases h
    · exact hgen h
  case build t ps =>
    split at h
    · split at h
      · exact ⟨_, h, fun _ h => h⟩
      · cases h
    · cases h
  case call c =>
    split at h
    · split at h
      · split at h
        · exact ⟨_, h, fun _ h => h⟩
        · cases h
      · cases h
    · cases h
  all_goals exact hgen h

theorem ay_mono {o : Oper} {s : St} {k k' : AV → Prop} (hk : ∀ r, k r → k' r) (h : ay P EQ o s k) : ay P EQ o s k' := by
  obtain ⟨r, hr, h⟩ := ay_pick h
  exact h _ (hk _ hr)

theorem ay_wid {o : Oper} {s : St} {k : AV → Prop} (h : ay P EQ o s k) {j : Nat} (hw : wid o s.fr = some j) : j < s.m.length := by
  unfold wid at hw
  split at hw
  · rename_i t x hop
    split at hw
    · rename_i i k' hv
      cases hw
      unfold ay at h
      rw [hop] at h
      simp only [hv] at h
      split at h
      · rename_i r hr
        unfold aload at hr
        cases hm : s.m[j]? with
        | none => rw [hm] at hr; simp at hr
        | some c => exact (List.getElem?_eq_some_iff.1 hm).1
      · cases h
    · cases hw
  · cases hw

theorem wid_eq {o : Oper} {fr fr' : List AV} (he : ∀ x ∈ o.op.operands, ev fr' x = ev fr x) : wid o fr' = wid o fr := by
  unfold wid
  split
  · rename_i t x hop
    rw [he x (by simp [hop, Op.operands])]
  · rfl

/-- What an operation yields, wanted or not. -/
def YieldA (P : Program) (EQ : List (TypeId × Nat)) (ops : Array Oper) (o : Oper) (r : AV) (s : St) : Prop :=
  (Region.wanted o (ayielded ops s.fr) = true ∧ isQuiet o = true ∧ ∀ k : AV → Prop, k r → ay P EQ o s k) ∨ (Region.wanted o (ayielded ops s.fr) = false ∧ r = .v undef)

/-- The watch list holds what a load that was taken first reads. -/
def Watched (ops : Array Oper) (o : Oper) (W : List Nat) (s : St) : Prop := Region.wanted o (ayielded ops s.fr) = true → (∀ j, wid o s.fr = some j → j ∈ W) ∧ (rdE o s.fr = true → EF ∈ W)

theorem aopAt_put {oi oj : Oper} {r : AV} {W W' : List Nat} {s : St} {K : St → Prop} (hap : oi.apart ops oj = true) (hsub : ∀ i, i ∈ W → i ∈ W')
    (hwid : Watched ops oi W' s) (hy : YieldA P EQ ops oi r s) (h : aopAt P EQ T W' ops oj (s.put oi.dst r) K) :
    aopAt P EQ T W ops oj s (fun s1 => YieldA P EQ ops oi r s1 ∧ Watched ops oi W' s1 ∧ K (s1.put oi.dst r)) := by
  obtain ⟨h1, h2, h3⟩ := Oper.apart_spec hap
  -- what the other operation leaves
  have keep : ∀ (m' : Mem) (E' : Ext) (u : AV), (Region.wanted oi (ayielded ops s.fr) = true → rdE oi s.fr = true → Ext.le s.E E') → (Region.wanted oi (ayielded ops s.fr) = true → ∀ j, wid oi s.fr = some j → m'[j]? = s.m[j]?) →
      YieldA P EQ ops oi r (({ s with m := m', E := E' } : St).put oj.dst u) ∧ Watched ops oi W' (({ s with m := m', E := E' } : St).put oj.dst u) := by
    intro m' E' u hE hm
    have hev : ∀ x ∈ oi.op.operands, ev (({ s with m := m', E := E' } : St).put oj.dst u).fr x = ev s.fr x := ev_put_op (s := { s with m := m', E := E' }) h3
    have hwa : Region.wanted oi (ayielded ops (({ s with m := m', E := E' } : St).put oj.dst u).fr) = Region.wanted oi (ayielded ops s.fr) := awanted_put (s := { s with m := m', E := E' }) h3
    refine ⟨?_, ?_⟩
    · rcases hy with ⟨hw, hq, hy⟩ | ⟨hw, hr⟩
      · refine .inl ⟨hwa.trans hw, hq, fun k hk => ay_keep (hy k hk) hev (by rw [St.put_E]; exact hE hw) fun j hj => ?_⟩
        rw [St.put_m]
        exact hm hw j hj
      · exact .inr ⟨hwa.trans hw, hr⟩
    · intro hw
      rw [hwa] at hw
      refine ⟨fun j hj => ?_, fun hj => ?_⟩
      · rw [wid_eq hev] at hj
        exact (hwid hw).1 j hj
      · rw [rdE_eq hev] at hj
        exact (hwid hw).2 hj
  have comm : ∀ (m' : Mem) (E' : Ext) (u : AV), ({ s.put oi.dst r with m := m', E := E' } : St).put oj.dst u = (({ s with m := m', E := E' } : St).put oj.dst u).put oi.dst r := by
    intro m' E' u
    rw [St.put_with, St.put_comm _ _ _ h2]
  have fin : ∀ (m' : Mem) (E' : Ext) (u : AV), (Region.wanted oi (ayielded ops s.fr) = true → rdE oi s.fr = true → Ext.le s.E E') → (Region.wanted oi (ayielded ops s.fr) = true → ∀ j, wid oi s.fr = some j → m'[j]? = s.m[j]?) → K (({ s.put oi.dst r with m := m', E := E' } : St).put oj.dst u) →
      (fun s1 => YieldA P EQ ops oi r s1 ∧ Watched ops oi W' s1 ∧ K (s1.put oi.dst r)) (({ s with m := m', E := E' } : St).put oj.dst u) := by
    intro m' E' u hE hm hK
    rw [comm] at hK
    exact ⟨(keep m' E' u hE hm).1, (keep m' E' u hE hm).2, hK⟩
  have same : ∀ u, K ((s.put oi.dst r).put oj.dst u) → (fun s1 => YieldA P EQ ops oi r s1 ∧ Watched ops oi W' s1 ∧ K (s1.put oi.dst r)) (s.put oj.dst u) := by
    intro u hK
    have := fin s.m s.E u (fun _ _ _ _ h => h) (fun _ _ _ => rfl)
    have e1 : ({ s.put oi.dst r with m := s.m, E := s.E } : St) = s.put oi.dst r := by cases oi.dst <;> rfl
    rw [e1] at this
    exact this hK
  have hev : ∀ x ∈ oj.op.operands, ev (s.put oi.dst r).fr x = ev s.fr x := ev_put_op h1
  unfold aopAt at h ⊢
  rw [awanted_put h1] at h
  split
  · rename_i hw
    rw [if_pos hw] at h
    unfold aop at h ⊢
    split at h
    · have h' := ay_keep (s' := s) h (fun x hx => (hev x hx).symm) (by rw [St.put_E]; exact fun _ _ _ h => h) (fun j hj => by rw [St.put_m])
      exact ay_mono (fun u hu => same u hu) h'
    · rename_i hq
      clear hq
      obtain ⟨dst, op, type, pos, after, guard⟩ := oj
      cases op <;> unfold aact at h ⊢ <;> simp only at h ⊢
      case alloc t =>
        split at h
        · rename_i z hz
          rw [St.put_m, St.put_E] at h
          split at h
          · refine fun r' => fin s.m r'.to _ (fun _ _ => r'.le) (fun _ _ _ => rfl) ?_
            exact h r'
          refine fin (s.m ++ [(z.cells.toList, t)]) s.E _ (fun _ _ _ _ h => h) (fun hwi j hj => ?_) ?_
          · rcases hy with ⟨_, _, hy⟩ | ⟨hw', _⟩
            · rw [List.getElem?_append_left (ay_wid (hy (fun _ => True) trivial) hj)]
            · rw [hwi] at hw'; cases hw'
          · exact h
        · cases h
      case box t x =>
        rw [hev x (by simp [Op.operands])] at h
        cases hv : ev s.fr x with
        | p i k => rw [hv] at h; cases h
        | v y =>
          rw [hv, St.put_m, St.put_E] at h
          simp only at h ⊢
          split at h
          · refine fun r' => fin s.m r'.to _ (fun _ _ => r'.le) (fun _ _ _ => rfl) ?_
            exact h r'
          refine fin (s.m ++ [(y.cells.toList, t)]) s.E _ (fun _ _ _ _ h => h) (fun hwi j hj => ?_) ?_
          · rcases hy with ⟨_, _, hy⟩ | ⟨hw', _⟩
            · rw [List.getElem?_append_left (ay_wid (hy (fun _ => True) trivial) hj)]
            · rw [hwi] at hw'; cases hw'
          · exact h
      case store t y x =>
        rw [hev y (by simp [Op.operands]), hev x (by simp [Op.operands]), St.put_m, St.put_E] at h
        cases hvx : ev s.fr x with
        | p j l => rw [hvx] at h; cases h
        | v u =>
          rw [hvx] at h
          simp only at h ⊢
          cases hvy : ev s.fr y with
          | v q =>
            rw [hvy] at h
            split at h
            · rename_i h1; cases h1
            · rename_i ad h1
              cases h1
              refine astore_mono (fun E' hk => ⟨keepE_sub hsub hk.1, ?_⟩) h
              refine fin s.m E' _ (fun hw hr => keepE_get hk.1 ((hwid hw).2 hr)) (fun _ _ _ => rfl) ?_
              exact hk.2
            · cases h
          | p i k =>
            rw [hvy] at h
            simp only at h ⊢
            split at h
            · rename_i c n hm hn
              split at h
              case h_2 => cases h
              rename_i hbs
              rw [Bool.and_eq_true] at hbs
              obtain ⟨hW, hrest⟩ := hbs
              have hni : i ∉ W' := fun hm => by rw [List.contains_iff_mem.2 hm] at hW; cases hW
              have hW2 : W.contains i = false := by
                cases hc : W.contains i with
                | false => rfl
                | true => exact (hni (hsub i (List.contains_iff_mem.1 hc))).elim
              rw [hW2, hrest]
              simp only [Bool.not_false, Bool.and_self]
              · refine fin (s.m.set i (setCells c.1 k u.cells.toList, c.2)) s.E _ (fun _ _ _ _ h => h) (fun hwi j hj => ?_) ?_
                · rw [List.getElem?_set_ne]
                  rintro rfl
                  exact hni ((hwid hwi).1 _ hj)
                · exact h
            · cases h
      case buildSlice t n ps =>
        have h' := arow_keep (fr' := s.fr) h (fun x hx => (hev x (by simpa [Op.operands] using hx)).symm)
        rw [St.put_E] at h'
        refine arow_mono (fun r' E' hle hk => ?_) h'
        refine fin s.m E' r' (fun _ _ => hle) (fun _ _ _ => rfl) ?_
        have e1 : ({ s.put oi.dst r with m := s.m, E := E' } : St) = ({ s.put oi.dst r with E := E' } : St) := by cases oi.dst <;> rfl
        rw [e1]; exact hk
      case makeSlice t lo co =>
        rw [hev lo (by simp [Op.operands]), hev co (by simp [Op.operands]), St.put_E] at h
        refine amake_mono (fun r' E' hle hk => ?_) h
        refine fin s.m E' r' (fun _ _ => hle) (fun _ _ _ => rfl) ?_
        have e1 : ({ s.put oi.dst r with m := s.m, E := E' } : St) = ({ s.put oi.dst r with E := E' } : St) := by cases oi.dst <;> rfl
        rw [e1]; exact hk
      case call c =>
        cases hcal : c.callee with
        | builtin b =>
          have hargs : c.args.toList.map (ev (s.put oi.dst r).fr) = c.args.toList.map (ev s.fr) := List.map_congr_left fun x hx => hev x (by simp [Op.operands, Call.operands, hcal]; simpa using hx)
          rw [hcal] at h
          cases b <;> simp only at h ⊢
          case copy =>
            rw [hargs, St.put_E] at h
            refine acopy_mono (fun r' E' hk => ⟨keepE_sub hsub hk.1, ?_⟩) h
            refine fin s.m E' r' (fun hw hr => keepE_get hk.1 ((hwid hw).2 hr)) (fun _ _ _ => rfl) ?_
            have e1 : ({ s.put oi.dst r with m := s.m, E := E' } : St) = ({ s.put oi.dst r with E := E' } : St) := by cases oi.dst <;> rfl
            rw [e1]; exact hk.2
          case append =>
            rw [hargs, St.put_E] at h
            refine aapp_mono (fun r' E' hle hk => ?_) h
            refine fin s.m E' r' (fun _ _ => hle) (fun _ _ _ => rfl) ?_
            have e1 : ({ s.put oi.dst r with m := s.m, E := E' } : St) = ({ s.put oi.dst r with E := E' } : St) := by cases oi.dst <;> rfl
            rw [e1]; exact hk
          all_goals cases h
        | invoke x n => rw [hcal] at h; cases h
        | value f =>
          rw [hcal] at h
          simp only at h ⊢
          have hopf : f ∈ (Op.call c).operands := by simp [Op.operands, Call.operands, hcal]
          have hargs : c.args.toList.map (ev (s.put oi.dst r).fr) = c.args.toList.map (ev s.fr) := List.map_congr_left fun x hx => hev x (by simp [Op.operands, Call.operands, hcal]; exact .inr (by simpa using hx))
          rw [hev f hopf, hargs, St.put_m, St.put_E] at h
          split at h
          · rename_i g first captured hvf
            split at h
            · rename_i sp hsp
              refine sp.mono (fun r' m' E' hk => ?_) h
              obtain ⟨hkeep, hke, hk⟩ := hk
              refine ⟨keepAll_mk fun i hi => keepAll_get hkeep i (hsub i hi), keepE_sub hsub hke, ?_⟩
              exact fin m' E' r' (fun hw hr => keepE_get hke ((hwid hw).2 hr)) (fun hwi j hj => keepAll_get hkeep j ((hwid hwi).1 j hj)) hk
            · cases h
          · cases h
      all_goals cases h
  · rename_i hw
    rw [if_neg hw] at h
    exact same _ h

theorem aopAt_mono {W : List Nat} {o : Oper} {s : St} {K K' : St → Prop} (hK : ∀ s, K s → K' s) (h : aopAt P EQ T W ops o s K) : aopAt P EQ T W ops o s K' := by
  unfold aopAt at h ⊢
  split
  · rename_i hw
    rw [if_pos hw] at h
    unfold aop at h ⊢
    split at h
    · exact ay_mono (fun r hr => hK _ hr) h
    · rename_i hq
      clear hq
      obtain ⟨dst, op, type, pos, after, guard⟩ := o
      cases op <;> unfold aact at h ⊢ <;> simp only at h ⊢
      case alloc t =>
        split at h
        · split at h
          · exact fun r => hK _ (h r)
          · exact hK _ h
        · cases h
      case box t x =>
        split at h
        · split at h
          · exact fun r => hK _ (h r)
          · exact hK _ h
        · cases h
      case store t y x =>
        split at h
        case h_2 => cases h
        split at h
        · split at h
          · split at h
            · exact hK _ h
            · cases h
          · cases h
        · exact astore_mono (fun _ hk => ⟨hk.1, hK _ hk.2⟩) h
        · cases h
      case buildSlice t n ps => exact arow_mono (fun _ _ _ hk => hK _ hk) h
      case makeSlice t lo co => exact amake_mono (fun _ _ _ hk => hK _ hk) h
      case call c =>
        split at h
        · exact acopy_mono (fun _ _ hk => ⟨hk.1, hK _ hk.2⟩) h
        · exact aapp_mono (fun _ _ _ hk => hK _ hk) h
        · split at h
          · split at h
            · rename_i sp _
              exact sp.mono (fun r' m' E' hk => ⟨hk.1, hk.2.1, hK _ hk.2.2⟩) h
            · cases h
          · cases h
        · cases h
      all_goals cases h
  · rename_i hw
    rw [if_neg hw] at h
    exact hK _ h

/-- Every order comes to K. -/
def aAny (P : Program) (EQ : List (TypeId × Nat)) (T : Tab) (ops : Array Oper) (W : List Nat) (K : St → Prop) : Nat → Array Bool → St → Prop
  | 0, l, s => Region.ready .any ops l = [] ∧ K s
  | n + 1, l, s => (Region.ready .any ops l = [] → K s) ∧ ∀ i ∈ Region.ready .any ops l, ∀ o, ops[i]? = some o → aopAt P EQ T W ops o s (aAny P EQ T ops W K n (l.setIfInBounds i true))

theorem aAny_sound (hEQ : EqOk P EQ) (hT : T.ok P) {W : List Nat} {Q : Exit → Act → World → Prop} {w0 : World} {β0 : List Nat} {E0 : Ext} {K : St → Prop} (hK : AK w0 β0 E0 K (Q .normal)) :
    ∀ (n : Nat) (l : Array Bool) (s : St), aAny P EQ T ops W K n l s → ∀ (w : World) (β : List Nat) (a : Act), Rel w0 β0 E0 β s.m s.E w → CF β s.fr a.tmps → a.defers = [] → wpAny P .any ops Q n l a w
  | 0, l, s, h, w, β, a, hR, hF, hd => ⟨h.1, hK s β a w h.2 hR hF hd⟩
  | n + 1, l, s, h, w, β, a, hR, hF, hd => ⟨fun h0 => hK s β a w (h.1 h0) hR hF hd, fun i hi => by
      obtain ⟨_, o, ho, _⟩ := mem_ready.1 hi
      exact aopAt_sound hEQ hT (Q := Q) ho (h.2 i hi o ho) hR hF hd (K := aAny P EQ T ops W K n (l.setIfInBounds i true)) fun s' β' a' w' hk hR' hF' hd' => aAny_sound hEQ hT hK n _ s' hk w' β' a' hR' hF' hd'⟩

theorem aAny_first {K : St → Prop} {i : Nat} {oi : Oper} {r : AV} (hi : ops[i]? = some oi) : ∀ (n : Nat) (l : Array Bool) (s : St) (W W' : List Nat),
    (∀ j oj, ops[j]? = some oj → j ≠ i → l.getD j true = false → (∀ e ∈ oj.after, Region.binds .any e = true → e.on ≠ i) → oi.apart ops oj = true) →
    (∀ k, k ∈ W → k ∈ W') → Watched ops oi W' s → i ∈ Region.ready .any ops l → YieldA P EQ ops oi r s →
    aAny P EQ T ops W' K n (l.setIfInBounds i true) (s.put oi.dst r) → aAny P EQ T ops W K (n + 1) l s := by
  have here : ∀ (s : St) (W : List Nat) (K' : St → Prop), YieldA P EQ ops oi r s → K' (s.put oi.dst r) → aopAt P EQ T W ops oi s K' := by
    intro s W K' hy hk
    unfold aopAt
    rcases hy with ⟨hw, hq, hy⟩ | ⟨hw, rfl⟩
    · rw [if_pos hw]; unfold aop; rw [hq]; exact hy _ hk
    · rw [if_neg (by simp [hw])]; exact hk
  -- fewer watches ask less
  have weak : ∀ (n : Nat) (l : Array Bool) (s : St) (W W' : List Nat), (∀ k, k ∈ W → k ∈ W') → aAny P EQ T ops W' K n l s → aAny P EQ T ops W K n l s := by
    intro n
    induction n with
    | zero => exact fun _ _ _ _ _ h => h
    | succ n ih =>
      intro l s W W' hs h
      refine ⟨h.1, fun j hj oj hoj => ?_⟩
      have h2 := h.2 j hj oj hoj
      have h3 : aopAt P EQ T W ops oj s (aAny P EQ T ops W' K n (l.setIfInBounds j true)) := by
        unfold aopAt at h2 ⊢
        split
        · rename_i hw
          rw [if_pos hw] at h2
          unfold aop at h2 ⊢
          split at h2
          · exact h2
          · rename_i hq
            clear hoj hj hw hq
            obtain ⟨dst, op, type, pos, after, guard⟩ := oj
            cases op <;> unfold aact at h2 ⊢ <;> simp only at h2 ⊢
            case alloc t => exact h2
            case box t x => exact h2
            case buildSlice t n ps => exact h2
            case makeSlice t lo co => exact h2
            case store t y x =>
              split at h2
              case h_2 => cases h2
              split at h2
              · split at h2
                · split at h2
                  case h_2 => cases h2
                  rename_i hbs
                  rw [Bool.and_eq_true] at hbs
                  obtain ⟨hW, hrest⟩ := hbs
                  have hW2 : ∀ i', (!W'.contains i') = true → W.contains i' = false := fun i' hW => by
                    cases hc : W.contains i' with
                    | false => rfl
                    | true => rw [List.contains_iff_mem.2 (hs _ (List.contains_iff_mem.1 hc))] at hW; cases hW
                  rw [hW2 _ hW, hrest]
                  exact h2
                · cases h2
              · exact astore_mono (fun _ hk => ⟨keepE_sub hs hk.1, hk.2⟩) h2
              · cases h2
            case call c =>
              split at h2
              · exact acopy_mono (fun _ _ hk => ⟨keepE_sub hs hk.1, hk.2⟩) h2
              · exact h2
              · split at h2
                · split at h2
                  · rename_i sp _
                    exact sp.mono (fun r' m' E' hk => ⟨keepAll_mk fun k hk' => keepAll_get hk.1 k (hs k hk'), keepE_sub hs hk.2.1, hk.2.2⟩) h2
                  · cases h2
                · cases h2
              · cases h2
            all_goals cases h2
        · rename_i hw
          rw [if_neg hw] at h2
          exact h2
      exact aopAt_mono (fun s' h' => ih _ s' W W' hs h') h3
  intro n
  induction n with
  | zero =>
    intro l s W W' _ hsub hwid hr hy H
    refine ⟨fun h => (by rw [h] at hr; cases hr), fun j hj oj hoj => ?_⟩
    by_cases hji : j = i
    · subst hji
      rw [hi] at hoj
      cases hoj
      exact here s W _ hy (weak _ _ _ _ _ hsub H)
    · have := ready_mono hj hji
      rw [H.1] at this
      cases this
  | succ n ih =>
    intro l s W W' hfree hsub hwid hr hy H
    refine ⟨fun h => (by rw [h] at hr; cases hr), fun j hj oj hoj => ?_⟩
    by_cases hji : j = i
    · subst hji
      rw [hi] at hoj
      cases hoj
      exact here s W _ hy (weak _ _ _ _ _ hsub H)
    · have h1 := H.2 j (ready_mono hj hji) oj hoj
      obtain ⟨hjun, oj', hoj', hall⟩ := mem_ready.1 hj
      rw [hoj] at hoj'
      cases hoj'
      have hnot : ∀ e ∈ oj.after, Region.binds .any e = true → e.on ≠ i := fun e he hb heq => by
        have h1 := hall e he hb
        have h0 := (mem_ready.1 hr).1
        rw [heq] at h1
        rcases Nat.lt_or_ge i l.size with h' | h'
        · simp [h'] at h0 h1; rw [h0] at h1; cases h1
        · simp [Array.getElem?_eq_none h'] at h1
      have h2 := aopAt_put (W := W) (hfree j oj hoj hji hjun hnot) hsub hwid hy h1
      have hfree' : ∀ k ok, ops[k]? = some ok → k ≠ i → (l.setIfInBounds j true).getD k true = false → (∀ e ∈ ok.after, Region.binds .any e = true → e.on ≠ i) → oi.apart ops ok = true := fun k ok hk hki hun hno => by
        refine hfree k ok hk hki ?_ hno
        by_cases hjk : j = k
        · subst hjk; exact hjun
        · rw [getD_set_ne true hjk] at hun; exact hun
      refine aopAt_mono (fun s' h3 => ih (l.setIfInBounds j true) s' W W' hfree' hsub h3.2.1 (ready_mono hr (Ne.symm hji)) h3.1 ?_) h2
      rw [Array.setIfInBounds_comm _ _ hji]
      exact h3.2.2



mutual
theorem asched_any {K : St → Prop} : ∀ (S : Sched) (l : Array Bool) (W : List Nat) (s : St), schedOk ops S l = true → asched P EQ T ops S W s K → ∀ n, S.depth ≤ n → aAny P EQ T ops W K n l s
  | .done, l, W, s, hc, h, n, _ => by
    have h0 : Region.ready .any ops l = [] := by simpa [schedOk] using hc
    cases n with
    | zero => exact ⟨h0, h⟩
    | succ n => exact ⟨fun _ => h, fun i hi => by rw [h0] at hi; cases hi⟩
  | .take i r, l, W, s, hc, h, n, hn => by
    simp only [Sched.depth] at hn
    obtain ⟨n, rfl⟩ : ∃ k, n = k + 1 := ⟨n - 1, by omega⟩
    simp only [schedOk, Bool.and_eq_true] at hc
    obtain ⟨⟨hr, hf⟩, hc⟩ := hc
    simp only [asched] at h
    cases ho : ops[i]? with
    | none => rw [ho] at h; cases h
    | some o =>
      rw [ho] at h
      simp only at h
      split at h
      case h_2 => cases h
      rename_i hq
      have hr' : i ∈ Region.ready .any ops l := List.contains_iff_mem.1 hr
      have h := eguard_imp h
      by_cases hw : Region.wanted o (ayielded ops s.fr) = true
      · rw [if_pos hw] at h
        obtain ⟨a, ha, hy⟩ := ay_pick h
        refine aAny_first ho n l s W (watch o s.fr W) (Region.free_spec ho hf) (fun k hk => ?_) (fun _ => ⟨fun j hj => ?_, fun hj => ?_⟩) hr' (.inl ⟨hw, hq, hy⟩) (asched_any r _ _ _ hc ha n (by omega))
        · unfold watch
          split
          · exact List.mem_cons_of_mem _ hk
          · split
            · exact List.mem_cons_of_mem _ hk
            · exact hk
        · unfold watch; rw [hj]; exact List.mem_cons_self
        · have hw0 : wid o s.fr = none := by
            unfold rdE at hj
            unfold wid
            split at hj
            · rename_i t x hop
              split at hj
              · cases hj
              · rename_i v hv
                simp only [hop, hv]
            · rename_i t t' x hop
              simp only [hop]
            · cases hj
          unfold watch
          rw [hw0, hj]
          exact List.mem_cons_self
      · rw [if_neg hw] at h
        exact aAny_first ho n l s W W (Region.free_spec ho hf) (fun _ hk => hk) (fun h => (hw h).elim) hr' (.inr ⟨by simpa using hw, rfl⟩) (asched_any r _ _ _ hc h n (by omega))
  | .fork fs, l, W, s, hc, h, n, hn => by
    simp only [Sched.depth] at hn
    obtain ⟨n, rfl⟩ : ∃ k, n = k + 1 := ⟨n - 1, by omega⟩
    simp only [schedOk, Bool.and_eq_true] at hc
    obtain ⟨⟨hne, hall⟩, hc⟩ := hc
    simp only [asched] at h
    have key := aforks_any fs l W s hc h n (by omega)
    refine ⟨fun h0 => ?_, fun i hi o ho => ?_⟩
    · cases fs with
      | nil => simp at hne
      | cons f fs =>
        have := (key f.1 f.2 List.mem_cons_self).1
        rw [h0] at this
        cases this
    · have h1 := List.all_eq_true.1 hall i hi
      obtain ⟨f, hf, he⟩ := List.any_eq_true.1 h1
      have he' : f.1 = i := by simpa using he
      obtain ⟨i', r⟩ := f
      subst he'
      exact (key i' r hf).2 o ho
theorem aforks_any {K : St → Prop} : ∀ (fs : List (Nat × Sched)) (l : Array Bool) (W : List Nat) (s : St), forksOk ops fs l = true → aforks P EQ T ops fs W s K → ∀ n, depths fs ≤ n →
    ∀ i r, (i, r) ∈ fs → i ∈ Region.ready .any ops l ∧ ∀ o, ops[i]? = some o → aopAt P EQ T W ops o s (aAny P EQ T ops W K n (l.setIfInBounds i true))
  | [], _, _, _, _, _, _, _, _, _, hm => by cases hm
  | (j, q) :: fs, l, W, s, hc, h, n, hn, i, r, hm => by
    simp only [depths] at hn
    simp only [forksOk, Bool.and_eq_true] at hc
    obtain ⟨⟨hr, hc1⟩, hc2⟩ := hc
    simp only [aforks] at h
    rcases List.mem_cons.1 hm with hm | hm
    · cases hm
      refine ⟨List.contains_iff_mem.1 hr, fun o ho => ?_⟩
      have h1 := h.1
      rw [ho] at h1
      exact aopAt_mono (fun s' hk => asched_any q _ W s' hc1 hk n (by omega)) (eopAt_imp h1)
    · exact aforks_any fs l W s hc2 h.2 n (by omega) i r hm
end

theorem asched_sound (hm : P.follows .mixedOrders = true) (hEQ : EqOk P EQ) (hT : T.ok P) {id : Nat} {Q : Exit → Act → World → Prop} {w0 : World} {β0 : List Nat} {E0 : Ext} {K : St → Prop} (hK : AK w0 β0 E0 K (Q .normal)) {S : Sched}
    (hc : schedOk ops S (Array.replicate ops.size false) = true) (hd : S.depth ≤ ops.size) {s : St} (h : asched P EQ T ops S [] s K) {w : World} {β : List Nat} {a : Act} (hR : Rel w0 β0 E0 β s.m s.E w) (hF : CF β s.fr a.tmps) (hdf : a.defers = []) :
    (Code.region id ops true).wp P Q a w :=
  wp_region_any hm (aAny_sound hEQ hT hK _ _ s (asched_any S _ _ _ hc h _ hd) _ β a (hR.drew _ (Nat.le_succ _)) hF hdf)

end Go.Proofs.Ytjibkphhlflpeaa.Ab

namespace Go.Proofs.Ytjibkphhlflpeaa.Ab

/-! ### the same, each value laid out as soon as it is there: this is what is evaluated -/
noncomputable def setF (l : List AV) (d : Nat) (a : AV) : (List AV → Prop) → Prop :=
  List.rec (motive := fun _ => Nat → (List AV → Prop) → Prop) (fun _ k => k []) (fun x r ih d k => match d with
    | 0 => k (a :: r)
    | n + 1 => ih n fun r' => k (x :: r')) l d
theorem setF_out : ∀ {l : List AV} {d : Nat} {a : AV} {k : List AV → Prop}, setF l d a k → k (l.set d a)
  | [], _, _, _, h => h
  | _ :: _, 0, _, _, h => h
  | x :: r, n + 1, a, k, h => setF_out (l := r) (k := fun r' => k (x :: r')) h

noncomputable def putF (s : St) (d : Option Tmp) (r : AV) (k : St → Prop) : Prop := match s, d with
  | ⟨fr, m, E⟩, some d => force r fun r' => setF fr d r' fun fr' => k ⟨fr', m, E⟩
  | s, none => k s
theorem putF_out {s : St} {d : Option Tmp} {r : AV} {k : St → Prop} (h : putF s d r k) : k (s.put d r) := by
  obtain ⟨fr, m, E⟩ := s
  unfold putF at h
  cases d with
  | none => exact h
  | some d => exact setF_out (k := fun fr => k ⟨fr, m, E⟩) (force_out h)

noncomputable def forceMem (m : Mem) : (Mem → Prop) → Prop :=
  List.rec (motive := fun _ => (Mem → Prop) → Prop) (fun k => k []) (fun c _ ih k => match c with
    | (cs, t) => forceL cs fun cs' => ih fun r' => k ((cs', t) :: r')) m
theorem forceMem_out : ∀ {m : Mem} {k : Mem → Prop}, forceMem m k → k m
  | [], _, h => h
  | (cs, t) :: r, k, h => forceMem_out (m := r) (k := fun r' => k ((cs, t) :: r')) (forceL_out (k := fun cs' => forceMem r fun r' => k ((cs', t) :: r')) h)

noncomputable def earow (P : Program) (t : TypeId) (len : Nat) (ps : Array (Nat × Operand)) (fr : List AV) (E : Ext) (k : AV → Ext → Prop) : Prop :=
  match parts fr ps.toList with
  | some l => match abuildS P t len l with
    | some (cs, e) => forceL cs fun cs' => ∀ r : NewRow E cs' e, k (.v (.slice (some ⟨r.b, 0, none⟩) len len)) r.to
    | none => False
  | none => False
theorem earow_out {P : Program} {t : TypeId} {len : Nat} {ps : Array (Nat × Operand)} {fr : List AV} {E : Ext} {k : AV → Ext → Prop} (h : earow P t len ps fr E k) : arow P t len ps fr E k := by
  unfold earow at h
  unfold arow
  split at h
  · split at h
    · exact forceL_out h
    · cases h
  · cases h
noncomputable def emake (P : Program) (t : TypeId) (lo co : AV) (E : Ext) (k : AV → Ext → Prop) : Prop :=
  match lo, co with
  | .v (.int _ len), .v (.int _ cap) => match P.underlying t with
    | some (.slice e) => match P.info? e with
      | some i => match i.zero with
        | some z => match Nat.beq z.cells.toList.length i.size && (Nat.ble 1 i.size && Nat.ble i.bytes 128) with
          | true => Side (0 ≤ len ∧ len ≤ cap ∧ cap ≤ 1099511627776) ∧ forceL z.cells.toList fun z' => ∀ r : NewRow E (zeroRow z' cap.toNat) e, k (.v (.slice (some ⟨r.b, 0, none⟩) len.toNat cap.toNat)) r.to
          | false => False
        | none => False
      | none => False
    | _ => False
  | _, _ => False
theorem emake_out {P : Program} {t : TypeId} {lo co : AV} {E : Ext} {k : AV → Ext → Prop} (h : emake P t lo co E k) : amake P t lo co E k := by
  unfold emake at h
  unfold amake
  split at h
  · split at h
    · split at h
      · split at h
        · split at h
          · exact ⟨h.1, forceL_out h.2⟩
          · cases h
        · cases h
      · cases h
    · cases h
  · cases h
noncomputable def estore (P : Program) (t : TypeId) (ad : Addr) (y : Value) (E : Ext) (k : Ext → Prop) : Prop := match prun P (sizeOf t) with
  | some n => match Nat.beq y.cells.toList.length n && y.cells.toList.all cellOk with
    | true => forceN n fun n' => forceL y.cells.toList fun cs => Side (Owned E ad n') ∧ k (E.upd ad.block ad.off cs)
    | false => False
  | none => False
theorem estore_out {P : Program} {t : TypeId} {ad : Addr} {y : Value} {E : Ext} {k : Ext → Prop} (h : estore P t ad y E k) : astore P t ad y E k := by
  unfold estore at h
  unfold astore
  split at h
  · split at h
    · exact forceL_out (k := fun cs => Side (Owned E ad _) ∧ k (E.upd ad.block ad.off cs)) (forceN_iff.1 h)
    · cases h
  · cases h
noncomputable def eapp (P : Program) (ts : List TypeId) (as : List AV) (E : Ext) (k : AV → Ext → Prop) : Prop :=
  match ts, as with
  | [t, t'], [.v (.slice a n c), .v (.slice a' n' c')] => match Nat.beq t t', P.underlying t with
    | true, some (.slice e) => match P.info? e with
      | some i => match i.zero with
        | some z => match Nat.beq z.cells.toList.length i.size && (Nat.ble 1 i.size && Nat.ble i.bytes 128) with
          | true => forceN i.size fun sz => ∃ y : List Value × List Value, Side (AppPre E e sz ⟨a, n, c⟩ ⟨a', n', c'⟩ y) ∧ ∀ (r : SlV) (E' : Ext), AppPost E e sz ⟨a, n, c⟩ ⟨a', n', c'⟩ y r E' → k (.v r.v) E'
          | false => False
        | none => False
      | none => False
    | _, _ => False
  | _, _ => False
theorem eapp_out {P : Program} {ts : List TypeId} {as : List AV} {E : Ext} {k : AV → Ext → Prop} (h : eapp P ts as E k) : aapp P ts as E k := by
  unfold eapp at h
  unfold aapp
  split at h
  · split at h
    · split at h
      · split at h
        · split at h
          · exact forceN_iff.1 h
          · cases h
        · cases h
      · cases h
    · cases h
  · cases h

noncomputable def eact (P : Program) (T : Tab) (W : List Nat) (o : Oper) (s : St) (K : St → Prop) : Prop := match s with
  | ⟨fr, mm, E⟩ => match o.op with
  | .alloc t => match prun P (zeroValue t) with
    | some z => match T.boxed o.dst with
      | true => forceL z.cells.toList fun cs => ∀ r : NewRow E cs t, putF ⟨fr, mm, r.to⟩ o.dst (.v (.pointer (some ⟨r.b, 0, none⟩))) K
      | false => forceMem (mm ++ [(z.cells.toList, t)]) fun m => putF ⟨fr, m, E⟩ o.dst (.p mm.length 0) K
    | none => False
  | .box t x => match ev fr x with
    | .v y => match T.boxed o.dst with
      | true => forceL y.cells.toList fun cs => ∀ r : NewRow E cs t, putF ⟨fr, mm, r.to⟩ o.dst (.v (.pointer (some ⟨r.b, 0, none⟩))) K
      | false => forceMem (mm ++ [(y.cells.toList, t)]) fun m => putF ⟨fr, m, E⟩ o.dst (.p mm.length 0) K
    | _ => False
  | .store t a x => match ev fr x with
    | .v y => match ev fr a with
      | .p i j => match mm[i]?, prun P (sizeOf t) with
        | some b, some n => match !W.contains i && (Nat.beq y.cells.toList.length n && (Nat.ble (j + n) b.1.length && y.cells.toList.all cellOk)) with
          | true => forceMem (mm.set i (setCells b.1 j y.cells.toList, b.2)) fun m => putF ⟨fr, m, E⟩ o.dst (.v undef) K
          | false => False
        | _, _ => False
      | .v (.pointer (some ad)) => estore P t ad y E fun E' => keepE W E E' ∧ putF ⟨fr, mm, E'⟩ o.dst (.v undef) K
      | _ => False
    | .p _ _ => False
  | .buildSlice t n ps => earow P t n ps fr E fun r E' => putF ⟨fr, mm, E'⟩ o.dst r K
  | .makeSlice t lo co => emake P t (ev fr lo) (ev fr co) E fun r E' => putF ⟨fr, mm, E'⟩ o.dst r K
  | .call c => match c.callee with
    | .builtin .copy => acopy P c.argTypes.toList (c.args.toList.map (ev fr)) E fun r E' => keepE W E E' ∧ putF ⟨fr, mm, E'⟩ o.dst r K
    | .builtin .append => eapp P c.argTypes.toList (c.args.toList.map (ev fr)) E fun r E' => putF ⟨fr, mm, E'⟩ o.dst r K
    | .value f => match ev fr f with
      | .v (.func (.func g) first captured) => match T.find g with
        | some sp => sp.f (first.toList.map .v ++ c.args.toList.map (ev fr) ++ captured.toList.map .v) mm E fun r m' E' =>
            keepAll mm m' W ∧ keepE W E E' ∧ forceMem m' fun m2 => putF ⟨fr, m2, E'⟩ o.dst r K
        | none => False
      | _ => False
    | _ => False
  | _ => False

noncomputable def eop (P : Program) (EQ : List (TypeId × Nat)) (T : Tab) (W : List Nat) (o : Oper) (s : St) (K : St → Prop) : Prop :=
  match isQuiet o with
  | true => ay P EQ o s fun r => putF s o.dst r K
  | false => eact P T W o s K

noncomputable def eguardF (ops : Array Oper) (o : Oper) (s : St) (A B : St → Prop) : Prop := match o.guard with
  | none => A s
  | some (j, want) => match (ops[j]?).bind (·.dst) with
    | some t => match aboolAt s.fr t with
      | some b => match want with
        | true => (b = true → putF s (some t) (.v (.bool true)) A) ∧ (b = false → putF s (some t) (.v (.bool false)) B)
        | false => (b = false → putF s (some t) (.v (.bool false)) A) ∧ (b = true → putF s (some t) (.v (.bool true)) B)
      | none => B s
    | none => B s

noncomputable def eops (P : Program) (EQ : List (TypeId × Nat)) (T : Tab) (ops : Array Oper) (l : List Oper) : St → (St → Prop) → Prop :=
  List.rec (motive := fun _ => St → (St → Prop) → Prop) (fun s K => K s)
    (fun o _ ih s K => eguardF ops o s (fun s' => eop P EQ T [] o s' fun s2 => ih s2 K) (fun s' => putF s' o.dst (.v undef) fun s2 => ih s2 K)) l

/-- A schedule, spelt flat. -/
inductive FS where
  | done
  | take (i : Nat) (r : FS)
  | last
  | alt (i : Nat) (r rest : FS)
def Sched.alts : Sched → List (Nat × Sched)
  | .fork l => l
  | _ => []
def FS.of : FS → Sched
  | .done => .done
  | .take i r => .take i r.of
  | .last => .fork []
  | .alt i r rest => .fork ((i, r.of) :: rest.of.alts)
def ofD (D : List (Nat × FS)) : List (Nat × Sched) := D.map fun x => (x.1, x.2.of)
def fsOf : List (Nat × FS) → Nat → FS
  | [], _ => .done
  | (i, s) :: r, j => match Nat.beq i j with
    | true => s
    | false => fsOf r j
theorem fsOf_of : ∀ (D : List (Nat × FS)) (id : Nat), schedOf (ofD D) id = (fsOf D id).of
  | [], _ => rfl
  | (i, s) :: r, j => by
    unfold fsOf
    show schedOf ((i, s.of) :: ofD r) j = _
    unfold schedOf
    cases Nat.beq i j with
    | true => rfl
    | false => exact fsOf_of r j

noncomputable def esched (P : Program) (EQ : List (TypeId × Nat)) (T : Tab) (ops : Array Oper) (S : FS) : List Nat → St → (St → Prop) → Prop :=
  FS.rec (motive := fun _ => List Nat → St → (St → Prop) → Prop)
    (fun _ s K => K s)
    (fun i _ ih W s K => match ops[i]? with
      | some o => match isQuiet o with
        | true => eguardF ops o s (fun s' => ay P EQ o s' fun a => putF s' o.dst a fun s2 => ih (watch o s'.fr W) s2 K) (fun s' => putF s' o.dst (.v undef) fun s2 => ih W s2 K)
        | false => False
      | none => False)
    (fun _ _ _ => True)
    (fun i _ _ ih ih2 W s K => (match ops[i]? with
      | some o => eguardF ops o s (fun s' => eop P EQ T W o s' fun s2 => ih W s2 K) (fun s' => putF s' o.dst (.v undef) fun s2 => ih W s2 K)
      | none => False) ∧ ih2 W s K) S

noncomputable def etrim (k : Nat) (s : St) (c : St → Prop) : Prop := match s with
  | ⟨fr, m, E⟩ => match Nat.beq m.length k with
    | true => c ⟨fr, m, E⟩
    | false => forceMem (m.take k) fun m' => trimF k fr fun fr' => c ⟨fr', m', E⟩
theorem etrim_out {k : Nat} {s : St} {c : St → Prop} (h : etrim k s c) : trim k s c := by
  obtain ⟨fr, m, E⟩ := s
  unfold etrim at h
  unfold trim
  dsimp only at h ⊢
  cases hb : Nat.beq m.length k with
  | true => rw [hb] at h; exact h
  | false => rw [hb] at h; exact forceMem_out (k := fun m' => trimF k fr fun fr' => c ⟨fr', m', E⟩) h
noncomputable def ew (P : Program) (EQ : List (TypeId × Nat)) (T : Tab) (D : List (Nat × FS)) (c : Code) : AQ → St → Prop :=
  Code.rec (motive := fun _ => AQ → St → Prop)
    (fun Q s => Q .normal s)
    (fun id ops draw Q s => match draw with
      | false => eops P EQ T ops ops.toList s (Q .normal)
      | true => esched P EQ T ops (fsOf D id) [] s (Q .normal))
    (fun _ _ iha ihb Q s => iha (AQ.then (fun s' => ihb Q s') Q) s)
    (fun c _ _ ihx ihy Q s => match ev s.fr c with
      | .v (.bool t) => (t = true → ihx Q s) ∧ (t = false → ihy Q s)
      | _ => False)
    (fun id _ ih Q s => ih (AQ.inBlock id Q) s)
    (fun _ ih Q s => ∃ I : Nat → St → Prop, (∃ n, I n s) ∧ ∀ n s', I n s' → ih (AQ.then (fun s'' => etrim s.m.length s'' fun s3 => ∃ n', n' < n ∧ I n' s3) Q) s')
    (fun _ _ _ _ _ _ _ _ => False)
    (fun id Q s => Q (.exit id) s)
    (fun _ _ _ _ => False)
    (fun _ Q s => Q .normal s)
    (fun _ _ _ => False)
    (fun Q s => Q .ret s)
    (fun _ _ _ => False) c

section
variable {P : Program} {EQ : List (TypeId × Nat)} {T : Tab} {ops : Array Oper} {D : List (Nat × FS)}

theorem eact_imp {W : List Nat} {o : Oper} {s : St} {K : St → Prop} (h : eact P T W o s K) : aact P T W o s K := by
  obtain ⟨dst, op, type, pos, after, guard⟩ := o
  obtain ⟨fr, mm, E⟩ := s
  cases op <;> unfold eact at h <;> unfold aact <;> simp only at h ⊢
  case alloc t =>
    split at h
    · split at h
      · have h1 := forceL_out h
        exact fun r => putF_out (h1 r)
      · have h1 := forceMem_out h
        exact putF_out h1
    · cases h
  case box t x =>
    split at h
    · split at h
      · have h1 := forceL_out h
        exact fun r => putF_out (h1 r)
      · have h1 := forceMem_out h
        exact putF_out h1
    · cases h
  case store t y x =>
    split at h
    case h_2 => cases h
    split at h
    · split at h
      · split at h
        · have h1 := forceMem_out h
          exact putF_out h1
        · cases h
      · cases h
    · exact astore_mono (fun _ hk => ⟨hk.1, putF_out hk.2⟩) (estore_out h)
    · cases h
  case buildSlice t n ps => exact arow_mono (fun _ _ _ hk => putF_out hk) (earow_out h)
  case makeSlice t lo co => exact amake_mono (fun _ _ _ hk => putF_out hk) (emake_out h)
  case call c =>
    split at h
    · exact acopy_mono (fun _ _ hk => ⟨hk.1, putF_out hk.2⟩) h
    · exact aapp_mono (fun _ _ _ hk => putF_out hk) (eapp_out h)
    · split at h
      · split at h
        · rename_i sp _
          refine sp.mono (fun r m' E' hk => ⟨hk.1, hk.2.1, ?_⟩) h
          have h1 := forceMem_out hk.2.2
          exact putF_out h1
        · cases h
      · cases h
    · cases h
  all_goals cases h

theorem eop_imp {W : List Nat} {o : Oper} {s : St} {K : St → Prop} (h : eop P EQ T W o s K) : aop P EQ T W o s K := by
  unfold eop at h
  unfold aop
  split at h
  · exact ay_mono (fun r hr => putF_out hr) h
  · exact eact_imp h

theorem eguardF_imp {o : Oper} {s : St} {A B : St → Prop} (h : eguardF ops o s A B) : eguard ops o s A B := by
  unfold eguardF at h
  unfold eguard
  split at h
  · exact h
  · split at h
    · split at h
      · split at h
        · exact ⟨fun hb => putF_out (h.1 hb), fun hb => putF_out (h.2 hb)⟩
        · exact ⟨fun hb => putF_out (h.1 hb), fun hb => putF_out (h.2 hb)⟩
      · exact h
    · exact h

theorem eguard_mono {o : Oper} {s : St} {A A' B B' : St → Prop} (hA : ∀ s, A s → A' s) (hB : ∀ s, B s → B' s) (h : eguard ops o s A B) : eguard ops o s A' B' := by
  unfold eguard at h ⊢
  split at h
  · exact hA _ h
  · split at h
    · split at h
      · split at h
        · exact ⟨fun hb => hA _ (h.1 hb), fun hb => hB _ (h.2 hb)⟩
        · exact ⟨fun hb => hA _ (h.1 hb), fun hb => hB _ (h.2 hb)⟩
      · exact hB _ h
    · exact hB _ h

theorem aop_mono {W : List Nat} {o : Oper} {s : St} {K K' : St → Prop} (hK : ∀ s, K s → K' s) (h : aop P EQ T W o s K) : aop P EQ T W o s K' := by
  have hw : Region.wanted { o with guard := none } (ayielded #[] s.fr) = true := rfl
  have h1 : aopAt P EQ T W #[] { o with guard := none } s K := by
    unfold aopAt
    rw [if_pos hw]
    exact h
  have h2 := aopAt_mono hK h1
  unfold aopAt at h2
  rw [if_pos hw] at h2
  exact h2

theorem eops_imp {K : St → Prop} : ∀ {l : List Oper} {s : St}, eops P EQ T ops l s K → aops P EQ T ops l s K
  | [], _, h => h
  | o :: r, s, h => by
    have h1 : eguard ops o s (fun s' => eop P EQ T [] o s' fun s2 => eops P EQ T ops r s2 K) (fun s' => putF s' o.dst (.v undef) fun s2 => eops P EQ T ops r s2 K) := eguardF_imp h
    have h2 : eguard ops o s (fun s' => aop P EQ T [] o s' fun s2 => aops P EQ T ops r s2 K) (fun s' => aops P EQ T ops r (s'.put o.dst (.v undef)) K) :=
      eguard_mono (fun _ h1 => aop_mono (fun _ h2 => eops_imp h2) (eop_imp h1)) (fun _ h1 => eops_imp (putF_out h1)) h1
    exact h2

theorem esched_imp {K : St → Prop} : ∀ (S : FS) (W : List Nat) (s : St), esched P EQ T ops S W s K → asched P EQ T ops S.of W s K ∧ aforks P EQ T ops S.of.alts W s K
  | .done, _, _, h => ⟨by simp only [FS.of, asched]; exact h, trivial⟩
  | .take i r, W, s, h => by
    refine ⟨?_, trivial⟩
    have h : (match ops[i]? with
      | some o => match isQuiet o with
        | true => eguardF ops o s (fun s' => ay P EQ o s' fun a => putF s' o.dst a fun s2 => esched P EQ T ops r (watch o s'.fr W) s2 K) (fun s' => putF s' o.dst (.v undef) fun s2 => esched P EQ T ops r W s2 K)
        | false => False
      | none => False) := h
    simp only [FS.of, asched]
    split at h
    · split at h
      · exact eguard_mono (fun _ h1 => ay_mono (fun _ h2 => (esched_imp r _ _ (putF_out h2)).1) h1) (fun _ h1 => (esched_imp r _ _ (putF_out h1)).1) (eguardF_imp h)
      · cases h
    · cases h
  | .last, _, _, _ => ⟨by simp only [FS.of, asched]; trivial, trivial⟩
  | .alt i r rest, W, s, h => by
    obtain ⟨h1, h2⟩ : (match ops[i]? with
      | some o => eguardF ops o s (fun s' => eop P EQ T W o s' fun s2 => esched P EQ T ops r W s2 K) (fun s' => putF s' o.dst (.v undef) fun s2 => esched P EQ T ops r W s2 K)
      | none => False) ∧ esched P EQ T ops rest W s K := h
    have key : aforks P EQ T ops ((i, r.of) :: rest.of.alts) W s K := by
      simp only [aforks]
      refine ⟨?_, (esched_imp rest W s h2).2⟩
      split at h1
      · exact eguard_mono (fun _ h1 => aop_mono (fun _ h2 => (esched_imp r _ _ h2).1) (eop_imp h1)) (fun _ h1 => (esched_imp r _ _ (putF_out h1)).1) (eguardF_imp h1)
      · cases h1
    exact ⟨by simp only [FS.of, asched]; exact key, key⟩

theorem asched_mono {K K' : St → Prop} (hK : ∀ s, K s → K' s) : ∀ (S : Sched) (W : List Nat) (s : St), asched P EQ T ops S W s K → asched P EQ T ops S W s K' := by
  intro S
  exact Sched.rec (motive_1 := fun S => ∀ (W : List Nat) (s : St), asched P EQ T ops S W s K → asched P EQ T ops S W s K')
    (motive_2 := fun fs => ∀ (W : List Nat) (s : St), aforks P EQ T ops fs W s K → aforks P EQ T ops fs W s K')
    (motive_3 := fun f => ∀ (W : List Nat) (s : St), asched P EQ T ops f.2 W s K → asched P EQ T ops f.2 W s K')
    (fun W s h => by simp only [asched] at h ⊢; exact hK _ h)
    (fun i r ih W s h => by
      simp only [asched] at h ⊢
      split at h
      · split at h
        · exact eguard_mono (fun _ h1 => ay_mono (fun _ h2 => ih _ _ h2) h1) (fun _ h1 => ih _ _ h1) h
        · cases h
      · cases h)
    (fun l ih W s h => by simp only [asched] at h ⊢; exact ih W s h)
    (fun W s h => trivial)
    (fun f fs ih1 ih2 W s h => by
      obtain ⟨i, r⟩ := f
      simp only [aforks] at h ⊢
      refine ⟨?_, ih2 W s h.2⟩
      have h1 := h.1
      split at h1
      · exact eguard_mono (fun _ h1 => aop_mono (fun _ h2 => ih1 _ _ h2) h1) (fun _ h1 => ih1 _ _ h1) h1
      · cases h1)
    (fun i r ih => ih)
    S

theorem aops_mono {K K' : St → Prop} (hK : ∀ s, K s → K' s) : ∀ (l : List Oper) (s : St), aops P EQ T ops l s K → aops P EQ T ops l s K'
  | [], _, h => hK _ h
  | o :: r, s, h => by
    have h1 : eguard ops o s (fun s' => aop P EQ T [] o s' fun s2 => aops P EQ T ops r s2 K) (fun s' => aops P EQ T ops r (s'.put o.dst (.v undef)) K) := h
    have h2 : eguard ops o s (fun s' => aop P EQ T [] o s' fun s2 => aops P EQ T ops r s2 K') (fun s' => aops P EQ T ops r (s'.put o.dst (.v undef)) K') :=
      eguard_mono (fun _ h1 => aop_mono (fun _ h2 => aops_mono hK r _ h2) h1) (fun _ h1 => aops_mono hK r _ h1) h1
    exact h2

theorem aw_mono {D : List (Nat × Sched)} : ∀ (c : Code) {Q Q' : AQ} {s : St}, (∀ e s, Q e s → Q' e s) → aw P EQ T D c Q s → aw P EQ T D c Q' s
  | .skip, Q, Q', s, hQ, h => hQ _ _ h
  | .region id ops draw, Q, Q', s, hQ, h => by
    simp only [aw] at h ⊢
    split at h
    · exact aops_mono (hQ .normal) _ _ h
    · exact asched_mono (hQ .normal) _ _ _ h
  | .seq a b, Q, Q', s, hQ, h => aw_mono a (fun e s h1 => by
      cases e with
      | normal => exact aw_mono b hQ h1
      | _ => exact hQ _ _ h1) h
  | .cond c x y, Q, Q', s, hQ, h => by
    simp only [aw] at h ⊢
    split at h
    · exact ⟨fun ht => aw_mono x hQ (h.1 ht), fun ht => aw_mono y hQ (h.2 ht)⟩
    · cases h
  | .block id c, Q, Q', s, hQ, h => aw_mono c (fun e s h1 => by
      cases e with
      | exit j =>
        simp only [AQ.inBlock] at h1 ⊢
        split at h1 <;> exact hQ _ _ h1
      | _ => exact hQ _ _ h1) h
  | .loop c, Q, Q', s, hQ, h => by
    obtain ⟨I, h0, hr⟩ := h
    refine ⟨I, h0, fun n s' hI => aw_mono c (fun e s h1 => ?_) (hr n s' hI)⟩
    cases e with
    | normal => exact h1
    | _ => exact hQ _ _ h1
  | .exit id, Q, Q', s, hQ, h => hQ _ _ h
  | .label _, Q, Q', s, hQ, h => hQ _ _ h
  | .ret, Q, Q', s, hQ, h => hQ _ _ h
  | .goto _, _, _, _, _, h => by cases h
  | .rangeFunc _ _ _ _, _, _, _, _, h => by cases h
  | .scope _, _, _, _, _, h => by cases h
  | .refuse _, _, _, _, _, h => by cases h

theorem ew_imp : ∀ (c : Code) {Q : AQ} {s : St}, ew P EQ T D c Q s → aw P EQ T (ofD D) c Q s
  | .skip, Q, s, h => h
  | .region id ops false, Q, s, h => by
    have h : eops P EQ T ops ops.toList s (Q .normal) := h
    simp only [aw]
    exact eops_imp h
  | .region id ops true, Q, s, h => by
    have h : esched P EQ T ops (fsOf D id) [] s (Q .normal) := h
    simp only [aw, fsOf_of]
    exact (esched_imp _ _ _ h).1
  | .seq a b, Q, s, h => by
    have h : ew P EQ T D a (AQ.then (fun s' => ew P EQ T D b Q s') Q) s := h
    exact aw_mono a (fun e s h1 => by
      cases e with
      | normal => exact ew_imp b h1
      | _ => exact h1) (ew_imp a h)
  | .cond c x y, Q, s, h => by
    have h : (match ev s.fr c with
      | .v (.bool t) => (t = true → ew P EQ T D x Q s) ∧ (t = false → ew P EQ T D y Q s)
      | _ => False) := h
    simp only [aw]
    split at h
    · exact ⟨fun ht => ew_imp x (h.1 ht), fun ht => ew_imp y (h.2 ht)⟩
    · cases h
  | .block id c, Q, s, h => ew_imp c h
  | .loop c, Q, s, h => by
    obtain ⟨I, h0, hr⟩ : ∃ I : Nat → St → Prop, (∃ n, I n s) ∧ ∀ n s', I n s' → ew P EQ T D c (AQ.then (fun s'' => etrim s.m.length s'' fun s3 => ∃ n', n' < n ∧ I n' s3) Q) s' := h
    exact ⟨I, h0, fun n s' hI => aw_mono c (fun e s1 h1 => by
      cases e with
      | normal => exact etrim_out (c := fun s3 => ∃ n', n' < n ∧ I n' s3) h1
      | _ => exact h1) (ew_imp c (hr n s' hI))⟩
  | .exit id, Q, s, h => h
  | .label _, Q, s, h => h
  | .ret, Q, s, h => h
  | .goto _, _, _, h => by cases h
  | .rangeFunc _ _ _ _, _, _, h => by cases h
  | .scope _, _, _, h => by cases h
  | .refuse _, _, _, h => by cases h
end

end Go.Proofs.Ytjibkphhlflpeaa.Ab

namespace Go.Proofs.Ytjibkphhlflpeaa.Ab
variable {P : Program} {EQ : List (TypeId × Nat)} {T : Tab} {D : List (Nat × Sched)}

def AQK (w0 : World) (β0 : List Nat) (E0 : Ext) (Q : AQ) (Qc : Exit → Act → World → Prop) : Prop :=
  ∀ ex s β a w, Q ex s → Rel w0 β0 E0 β s.m s.E w → CF β s.fr a.tmps → a.defers = [] → Qc ex a w

theorem wp_loop_j {c : Code} {Q : Exit → Act → World → Prop} {a : Act} {w : World} (J : Nat → Act → World → Prop) {n : Nat} (h0 : J n a w)
    (round : ∀ n a w, J n a w → c.wp P (Exit.then (fun a' w' => ∃ n', n' < n ∧ J n' a' w') Q) a w) : (Code.loop c).wp P Q a w := by
  intro b k cs
  have key : ∀ n a w, J n a w → ∃ e a' w', Q e a' w' ∧ Arrives P (lone (b.at a (.code c :: .inLoop c :: k)) cs w) b k cs e a' w' := by
    intro n
    induction n using Nat.strongRecOn with
    | _ n ih =>
      intro a w hJ
      obtain ⟨e, a₁, w₁, hq, harr⟩ := round n a w hJ b (.inLoop c :: k) cs
      cases e with
      | normal =>
        obtain ⟨n', hlt, hJ'⟩ := hq
        obtain ⟨e₂, a₂, w₂, hq₂, harr₂⟩ := ih n' hlt a₁ w₁ hJ'
        exact ⟨e₂, a₂, w₂, hq₂, .of_steps (Steps.trans harr (.one step_inLoop)) harr₂⟩
      | exit id => exact ⟨_, a₁, w₁, hq, .pass (x := .inLoop c) rfl (fun _ _ => .inl (by simp)) harr⟩
      | goto l => exact ⟨_, a₁, w₁, hq, .pass (x := .inLoop c) rfl (fun _ _ => .inl (by simp)) harr⟩
      | ret => exact ⟨_, a₁, w₁, hq, .pass (x := .inLoop c) rfl (fun _ _ => .inl (by simp)) harr⟩
      | panic ch => exact ⟨_, a₁, w₁, hq, .pass (x := .inLoop c) rfl (fun _ _ => .inl (by simp)) harr⟩
      | outgrown => exact ⟨_, a₁, w₁, hq, .pass (x := .inLoop c) rfl (fun _ _ => .inl (by simp)) harr⟩
  obtain ⟨e, a', w', hq, harr⟩ := key n a w h0
  exact ⟨e, a', w', hq, .of_steps (.one step_loop) harr⟩

theorem trim_sound {w0 w : World} {β0 β : List Nat} {E0 : Ext} {s : St} {k : Nat} {c : St → Prop} {ts : Array Value} (h : trim k s c) (hR : Rel w0 β0 E0 β s.m s.E w) (hF : CF β s.fr ts) (hk : β0.length ≤ k) :
    ∃ s' β', c s' ∧ Rel w0 β0 E0 β' s'.m s'.E w ∧ CF β' s'.fr ts := by
  obtain ⟨fr, m, E⟩ := s
  unfold trim at h
  dsimp only at h
  cases hb : Nat.beq m.length k with
  | true => rw [hb] at h; exact ⟨_, β, h, hR, hF⟩
  | false =>
  rw [hb] at h
  obtain ⟨l', h1, h2, h3⟩ := trimF_out (fun i => ts.getD i undef) h
  have tk : ∀ {α : Type} {l : List α} {i : Nat} {a : α}, (l.take k)[i]? = some a → l[i]? = some a := fun {α l i a} hi => by
    rw [List.getElem?_take] at hi
    split at hi
    · exact hi
    · cases hi
  refine ⟨⟨l', m.take k, E⟩, β.take k, h1, ⟨hR.ge, hR.os, hR.tape, hR.output, hR.size, hR.old, ?_, hR.nodup.sublist (List.take_sublist _ _), by have := hR.len; simp [List.length_take, this], fun i b c hi hc => hR.blk i b c (tk hi) (tk hc), fun a v ha => ⟨(hR.ext a v ha).1, fun hm => (hR.ext a v ha).2 (List.mem_of_mem_take hm)⟩, hR.dom, hR.le0, fun b p hb => ?_, hR.glob⟩, ?_⟩
  · obtain ⟨γ, hγ, hb⟩ := hR.pre
    refine ⟨γ.take (k - β0.length), ?_, fun b hm => hb b (List.mem_of_mem_take hm)⟩
    rw [hγ, List.take_append, List.take_of_length_le hk]
  · obtain ⟨g1, g2, g3⟩ := hR.own b p hb
    exact ⟨g1, fun hm => g2 (List.mem_of_mem_take hm), g3⟩
  · refine ⟨by rw [h2]; exact hF.1, fun i a' hi => ?_⟩
    obtain ⟨a, ha, hc⟩ := h3 i a' hi
    obtain ⟨x, hx, hcx⟩ := hF.2 i a ha
    refine ⟨x, hx, ?_⟩
    rcases hc with ⟨rfl, hp⟩ | ⟨rfl, _⟩
    · cases a' with
      | v y => exact hcx
      | p j o =>
        obtain ⟨b, hb, hy⟩ := hcx
        refine ⟨b, ?_, hy⟩
        rw [List.getElem?_take_of_lt (hp j o rfl)]
        exact hb
    · show x = ts.getD i undef
      rw [Array.getD_eq_getD_getElem?, hx]
      rfl

theorem aw_sound (hm : P.follows .mixedOrders = true) (hEQ : EqOk P EQ) (hT : T.ok P) {w0 : World} {β0 : List Nat} {E0 : Ext} : ∀ (c : Code) (Q : AQ) (Qc : Exit → Act → World → Prop), AQK w0 β0 E0 Q Qc →
    codeOk D c = true → ∀ (s : St) (w : World) (β : List Nat) (a : Act), aw P EQ T D c Q s → Rel w0 β0 E0 β s.m s.E w → CF β s.fr a.tmps → a.defers = [] → c.wp P Qc a w
  | .skip, Q, Qc, hQ, hD, s, w, β, a, h, hR, hF, hd => wp_skip (hQ _ s β a w h hR hF hd)
  | .region id ops false, Q, Qc, hQ, hD, s, w, β, a, h, hR, hF, hd => by
    have := aops_sound hEQ hT (Q := Qc) (K := Q .normal) (fun s β a w => hQ .normal s β a w) ops.toList 0 (fun j => by simp) s h w β a hR hF hd
    refine wp_region ?_
    simpa using this
  | .region id ops true, Q, Qc, hQ, hD, s, w, β, a, h, hR, hF, hd => by
    have h1 : regionOk ops (schedOf D id) = true := hD
    unfold regionOk at h1
    rw [Bool.and_eq_true] at h1
    exact asched_sound hm hEQ hT (K := Q .normal) (fun s β a w => hQ .normal s β a w) h1.1 (of_decide_eq_true h1.2) h hR hF hd
  | .seq x y, Q, Qc, hQ, hD, s, w, β, a, h, hR, hF, hd => by
    simp only [codeOk, Bool.and_eq_true] at hD
    refine wp_seq (aw_sound hm hEQ hT x _ _ (fun ex s' β' a' w' hq hR' hF' hd' => ?_) hD.1 s w β a h hR hF hd)
    cases ex with
    | normal => exact aw_sound hm hEQ hT y Q Qc hQ hD.2 s' w' β' a' hq hR' hF' hd'
    | _ => exact hQ _ s' β' a' w' hq hR' hF' hd'
  | .cond c x y, Q, Qc, hQ, hD, s, w, β, a, h, hR, hF, hd => by
    simp only [codeOk, Bool.and_eq_true] at hD
    have hc := hF.ev c
    unfold aw at h
    split at h
    · rename_i t hv
      rw [hv] at hc
      have hc' : a.eval c = .bool t := hc
      exact wp_cond_split hc' (fun ht => aw_sound hm hEQ hT x Q Qc hQ hD.1 s w β a (h.1 ht) hR hF hd) (fun ht => aw_sound hm hEQ hT y Q Qc hQ hD.2 s w β a (h.2 ht) hR hF hd)
    · cases h
  | .block id c, Q, Qc, hQ, hD, s, w, β, a, h, hR, hF, hd => by
    refine wp_block (aw_sound hm hEQ hT c _ _ (fun ex s' β' a' w' hq hR' hF' hd' => ?_) hD s w β a h hR hF hd)
    cases ex with
    | exit j =>
      simp only [AQ.inBlock] at hq
      simp only [Exit.inBlock]
      by_cases hj : j = id
      · subst hj
        rw [Nat.beq_refl] at hq
        rw [if_pos rfl]
        exact hQ _ s' β' a' w' hq hR' hF' hd'
      · have hb : Nat.beq j id = false := by
          cases hb : Nat.beq j id with
          | false => rfl
          | true => exact (hj (Nat.eq_of_beq_eq_true hb)).elim
        rw [hb] at hq
        rw [if_neg hj]
        exact hQ _ s' β' a' w' hq hR' hF' hd'
    | _ => exact hQ _ s' β' a' w' hq hR' hF' hd'
  | .loop c, Q, Qc, hQ, hD, s, w, β, a, h, hR, hF, hd => by
    obtain ⟨I, ⟨n, h0⟩, hround⟩ := h
    have hk : β0.length ≤ s.m.length := by
      obtain ⟨γ, hγ, _⟩ := hR.pre
      rw [← hR.len, hγ, List.length_append]
      omega
    refine wp_loop_j (fun n a w => ∃ s β, I n s ∧ Rel w0 β0 E0 β s.m s.E w ∧ CF β s.fr a.tmps ∧ a.defers = []) ⟨s, β, h0, hR, hF, hd⟩ fun n a w hJ => ?_
    obtain ⟨s', β', hI, hR', hF', hd'⟩ := hJ
    refine aw_sound hm hEQ hT c _ _ (fun ex s2 β2 a2 w2 hq hR2 hF2 hd2 => ?_) hD s' w β' a (hround n s' hI) hR' hF' hd'
    cases ex with
    | normal =>
      obtain ⟨s3, β3, ⟨n', hlt, hI'⟩, hR3, hF3⟩ := trim_sound (c := fun s3 => ∃ n', n' < n ∧ I n' s3) hq hR2 hF2 hk
      exact ⟨n', hlt, s3, β3, hI', hR3, hF3, hd2⟩
    | _ => exact hQ _ s2 β2 a2 w2 hq hR2 hF2 hd2
  | .exit id, Q, Qc, hQ, hD, s, w, β, a, h, hR, hF, hd => wp_exit (hQ _ s β a w h hR hF hd)
  | .label l, Q, Qc, hQ, hD, s, w, β, a, h, hR, hF, hd => wp_label (hQ _ s β a w h hR hF hd)
  | .ret, Q, Qc, hQ, hD, s, w, β, a, h, hR, hF, hd => wp_ret (hQ _ s β a w h hR hF hd)
  | .goto _, _, _, _, _, _, _, _, _, h, _, _, _ => by cases h
  | .rangeFunc _ _ _ _, _, _, _, _, _, _, _, _, h, _, _, _ => by cases h
  | .scope _, _, _, _, _, _, _, _, _, h, _, _, _ => by cases h
  | .refuse _, _, _, _, _, _, _, _, _, h, _, _, _ => by cases h

theorem ares1_sound {s : St} {r : ResultVar} {x : AV} (h : ares1 P s r = some x) {w0 w : World} {β0 β : List Nat} {E0 : Ext} {ts : Array Value} (hR : Rel w0 β0 E0 β s.m s.E w) (hF : CF β s.fr ts) :
    ∃ y, (match r with | .tmp t => pure (ts.getD t undef) | .cell a t => do loadVar t (← asAddr (ts.getD a undef)) : Sem Value).run P w = .ok y w ∧ Conc β x y := by
  cases r with
  | tmp t => cases h; exact ⟨_, rfl, hF.getD t⟩
  | cell c t =>
    unfold ares1 at h
    have hc := hF.getD c
    simp only at h
    split at h
    · rename_i i k hv
      rw [hv] at hc
      obtain ⟨b, hb, hx⟩ := hc
      cases hm : s.m[i]? with
      | none => simp [aload, hm] at h
      | some c' =>
        obtain ⟨y, hy, rfl⟩ := run_loadVar (hR.blk i b c' hb hm) hm h
        refine ⟨y, ?_, rfl⟩
        simp only [Sem.run_bind, hx, asAddr, Sem.run_pure, Result.andThen_ok, hy]
    · cases h

theorem mapM_run {α β : Type} (f : α → Sem β) (w : World) : ∀ (l : List α) (ys : List β), l.length = ys.length → (∀ (i : Nat) (x : α) (y : β), l[i]? = some x → ys[i]? = some y → (f x).run P w = .ok y w) → (l.mapM f).run P w = .ok ys w
  | [], [], _, _ => rfl
  | x :: l, y :: ys, hl, h => by
    simp only [List.mapM_cons, Sem.run_bind]
    rw [h 0 x y rfl rfl]
    simp only [Result.andThen_ok]
    rw [mapM_run f w l ys (by simpa using hl) (fun i a b ha hb => h (i + 1) a b ha hb)]
    rfl
  | [], _ :: _, hl, _ => by simp at hl
  | _ :: _, [], hl, _ => by simp at hl

theorem aresL_get {s : St} : ∀ (l : List ResultVar) (ys : List Value), aresL P s l = some ys → l.length = ys.length ∧ ∀ (i : Nat) (x : ResultVar) (y : Value), l[i]? = some x → ys[i]? = some y → ares1 P s x = some (.v y)
  | [], ys, h => by cases h; exact ⟨rfl, fun i x y hx => by cases hx⟩
  | r :: l, ys, h => by
    unfold aresL at h
    split at h
    · rename_i x hx
      split at h
      · rename_i xs hxs
        cases h
        obtain ⟨h1, h2⟩ := aresL_get l xs hxs
        refine ⟨by simp [h1], fun i a b ha hb => ?_⟩
        cases i with
        | zero => cases ha; cases hb; exact hx
        | succ i => exact h2 i a b ha hb
      · cases h
    · cases h

theorem ares_sound {fn : Func} {s : St} {r : AV} (h : ares P fn s = some r) {w0 w : World} {β0 β : List Nat} {E0 : Ext} {ts : Array Value} (hR : Rel w0 β0 E0 β s.m s.E w) (hF : CF β s.fr ts) :
    ∃ x, (results fn ts).run P w = .ok x w ∧ Conc β r x := by
  unfold ares at h
  unfold results
  have hmap : ∀ f : ResultVar → Sem Value, (fn.results.mapM f).run P w = ((List.toArray <$> fn.results.toList.mapM f : Sem (Array Value))).run P w := fun f => by rw [Array.mapM_eq_mapM_toList]
  split at h
  · rename_i q hq
    obtain ⟨y, hy, hc⟩ := ares1_sound h hR hF
    refine ⟨y, ?_, hc⟩
    rw [Sem.run_bind, hmap, hq, Sem.run_map]
    rw [mapM_run (P := P) _ w [q] [y] rfl (fun i x z hx hz => by
      cases i with
      | zero => cases hx; cases hz; exact hy
      | succ i => cases hx)]
    simp
  · rename_i l hl
    split at h
    · rename_i vs hvs
      cases h
      refine ⟨.tuple vs.toArray, ?_, rfl⟩
      obtain ⟨h1, h2⟩ := aresL_get _ _ hvs
      rw [Sem.run_bind, hmap, Sem.run_map]
      rw [mapM_run (P := P) _ w fn.results.toList vs h1 (fun i x z hx hz => by
        obtain ⟨y, hy, hc⟩ := ares1_sound (h2 i x z hx hz) hR hF
        cases hc
        exact hy)]
      have hsz : ¬ vs.length = 1 := fun h1' => by
        rw [h1'] at h1
        match hfl : fn.results.toList, h1 with
        | [q], _ => exact hl q hfl
      simp [hsz]
    · cases h

/-- A call by its abstract run. -/
theorem calls_of_aw (hm : P.follows .mixedOrders = true) (hEQ : EqOk P EQ) (hT : T.ok P) (D : List (Nat × FS)) {f : FuncId} {fn : Func} {c : Code} (hf : P.funcs[f]? = some fn) (hb : fn.body = some c) {as : List AV} {vs : Array Value} {m : Mem} {E : Ext} {w : World} {β : List Nat}
    (hR : Rel w β E β m E w) (hl : as.length = vs.size) (hvs : ∀ (i : Nat) (a : AV), as[i]? = some a → ∃ x, vs[i]? = some x ∧ Conc β a x) {K : Kont} (hD : codeOk (ofD D) c = true)
    (h : ew P EQ T D c (fin P fn K) ⟨as ++ List.replicate (fn.ntmps - as.length) (.v undef), m, E⟩) : Calls P f vs w (Post w β E K) := by
  refine calls_of_wp hf hb (aw_sound hm hEQ hT (w0 := w) (β0 := β) (E0 := E) c _ _ ?_ hD ⟨as ++ List.replicate (fn.ntmps - as.length) (.v undef), m, E⟩ w β _ (ew_imp c h) hR ?_ rfl)
  · intro ex s β' a w' hq hR' hF' hd'
    have key : fin1 P fn K s → a.defers = [] ∧ ∃ v, (results fn a.tmps).run P w' = .ok v w' ∧ Post w β E K (.returned v) w' := by
      intro h
      unfold fin1 at h
      split at h
      · rename_i r hr
        obtain ⟨x, hx, hc⟩ := ares_sound hr hR' hF'
        exact ⟨hd', x, hx, r, s.m, s.E, β', x, rfl, hc, hR', force_out h⟩
      · cases h
    cases ex with
    | normal => exact key hq
    | ret => exact key hq
    | _ => cases hq
  · refine ⟨by simp; omega, fun i a ha => ?_⟩
    by_cases hi : i < as.length
    · rw [List.getElem?_append_left hi] at ha
      obtain ⟨x, hx, hc⟩ := hvs i a ha
      exact ⟨x, by rw [Array.getElem?_append_left (by omega)]; exact hx, hc⟩
    · rw [List.getElem?_append_right (by omega)] at ha
      have hi2 := (List.getElem?_eq_some_iff.1 ha).1
      rw [List.getElem?_replicate] at ha
      split at ha
      · cases ha
        refine ⟨undef, ?_, rfl⟩
        rw [Array.getElem?_append_right (by omega), Array.getElem?_replicate, if_pos (by simp at hi2; omega)]
      · cases ha

end Go.Proofs.Ytjibkphhlflpeaa.Ab

namespace Go.Proofs.Ytjibkphhlflpeaa.Ab
/-! ### contracts -/
theorem Ext.le_self (E : Ext) : Ext.le E E ↔ True := ⟨fun _ => trivial, fun _ _ _ h => h⟩
noncomputable def forceFr (l : List AV) : (List AV → Prop) → Prop :=
  List.rec (motive := fun _ => (List AV → Prop) → Prop) (fun k => k []) (fun a _ ih k => force a fun a' => ih fun r' => k (a' :: r')) l
theorem forceFr_out : ∀ {l : List AV} {k : List AV → Prop}, forceFr l k → k l
  | [], _, h => h
  | a :: r, k, h => by
    exact forceFr_out (l := r) (k := fun r' => k (a :: r')) (force_out (k := fun a' => forceFr r fun r' => k (a' :: r')) h)

/-- How arguments are told. -/
structure Arg (α : Type) where
  enc : α → Value
  dec : Value → Option α
  ok : ∀ {v x}, dec v = some x → v = enc x
structure ArgL (α : Type) where
  enc : α → List Value
  dec : List Value → Option α
  ok : ∀ {v x}, dec v = some x → v = enc x
def ArgL.nil : ArgL Unit where
  enc _ := []
  dec | [] => some ()
      | _ => none
  ok := by intro v x h; split at h <;> simp_all
def ArgL.cons {α β : Type} (A : Arg α) (B : ArgL β) : ArgL (α × β) where
  enc x := A.enc x.1 :: B.enc x.2
  dec | [] => none
      | v :: r => match A.dec v, B.dec r with
        | some a, some b => some (a, b)
        | _, _ => none
  ok := by
    intro v x h
    split at h
    · cases h
    · split at h
      · rename_i ha hb
        cases h
        rw [A.ok ha, B.ok hb]
      · cases h
def Arg.int : Arg Int where
  enc n := .int .i64 n
  dec | .int .i64 n => some n
      | _ => none
  ok := by intro v x h; split at h <;> simp_all
def Arg.bool : Arg Bool where
  enc b := .bool b
  dec | .bool b => some b
      | _ => none
  ok := by intro v x h; split at h <;> simp_all
def Arg.str : Arg ByteArray where
  enc b := .string b
  dec | .string b => some b
      | _ => none
  ok := by intro v x h; split at h <;> simp_all
def Arg.slice : Arg SlV where
  enc := SlV.v
  dec | .slice a n c => some ⟨a, n, c⟩
      | _ => none
  ok := by intro v x h; split at h <;> simp_all; subst h; rfl
/-- A fraction. -/
structure Q where
  p : Int
  q : Int
deriving DecidableEq
def Q.cells (a : Q) : List Value := [.int .i64 a.p, .int .i64 a.q]
def Q.v (a : Q) : Value := .agg #[.int .i64 a.p, .int .i64 a.q]
def qDec : List Value → Option Q
  | [.int .i64 p, .int .i64 q] => some ⟨p, q⟩
  | _ => none
theorem qDec_ok {v : List Value} {x : Q} (h : qDec v = some x) : v = x.cells := by
  unfold qDec at h
  split at h <;> simp_all
  subst h
  rfl
def Arg.frac : Arg Q where
  enc := Q.v
  dec | .agg cs => qDec cs.toList
      | _ => none
  ok := by
    intro v x h
    split at h
    · rename_i cs
      have := qDec_ok h
      unfold Q.v Q.cells at *
      rw [← this]
    · cases h
/-- A span. -/
structure Sn where
  lo : Q
  hi : Q
deriving DecidableEq
def Sn.cells (a : Sn) : List Value := [.int .i64 a.lo.p, .int .i64 a.lo.q, .int .i64 a.hi.p, .int .i64 a.hi.q]
def Sn.v (a : Sn) : Value := .agg #[.int .i64 a.lo.p, .int .i64 a.lo.q, .int .i64 a.hi.p, .int .i64 a.hi.q]
def snDec : List Value → Option Sn
  | [.int .i64 p, .int .i64 q, .int .i64 r, .int .i64 s] => some ⟨⟨p, q⟩, ⟨r, s⟩⟩
  | _ => none
theorem snDec_ok {v : List Value} {x : Sn} (h : snDec v = some x) : v = x.cells := by
  unfold snDec at h
  split at h <;> simp_all
  subst h
  rfl
def Arg.span : Arg Sn where
  enc := Sn.v
  dec | .agg cs => snDec cs.toList
      | _ => none
  ok := by
    intro v x h
    split at h
    · have := snDec_ok h
      unfold Sn.v Sn.cells at *
      rw [← this]
    · cases h
/-- A struct, by its cells. -/
def Arg.agg {α : Type} (A : ArgL α) : Arg α where
  enc x := .agg (A.enc x).toArray
  dec | .agg cs => A.dec cs.toList
      | _ => none
  ok := by
    intro v x h
    split at h
    · rw [← A.ok h]
    · cases h
/-- The cells of two, one behind the other. -/
def Arg.map {α β : Type} (A : Arg α) (f : α → β) (g : β → α) (hf : ∀ x, g (f x) = x) : Arg β where
  enc y := A.enc (g y)
  dec v := match A.dec v with
    | some x => some (f x)
    | none => none
  ok := by
    intro v x h
    split at h
    · rename_i y hy
      cases h
      rw [hf, ← A.ok hy]
    · cases h

def plains : List AV → Option (List Value)
  | [] => some []
  | .v x :: r => match plains r with
    | some l => some (x :: l)
    | none => none
  | _ => none
theorem plains_eq : ∀ {l : List AV} {vs : List Value}, plains l = some vs → l = vs.map .v
  | [], vs, h => by cases h; rfl
  | .v x :: r, vs, h => by
    unfold plains at h
    split at h
    · rename_i l hl
      cases h
      rw [plains_eq hl]; rfl
    · cases h
  | .p _ _ :: _, _, h => by cases h

/-- A function of values, and of rows that it reads. -/
def Sp.rf {α γ : Type} (A : ArgL α) (R : α → γ → Ext → Prop) (res : α → γ → Value) : Sp where
  f bs m E K := match plains bs with
    | some vs => match A.dec vs with
      | some x => ∃ l : γ, Side (R x l E) ∧ K (.v (res x l)) m E
      | none => False
    | none => False
  mono := by
    intro bs m E K K' hk h
    split at h
    · split at h
      · obtain ⟨l, h1, h2⟩ := h; exact ⟨l, h1, hk _ _ _ h2⟩
      · cases h
    · cases h

/-- A function of values. -/
def Sp.pf {α : Type} (A : ArgL α) (pre : α → Prop) (res : α → Value) : Sp where
  f bs m E K := match plains bs with
    | some vs => match A.dec vs with
      | some x => Side (pre x) ∧ K (.v (res x)) m E
      | none => False
    | none => False
  mono := by
    intro bs m E K K' hk h
    split at h
    · split at h
      · exact ⟨h.1, hk _ _ _ h.2⟩
      · cases h
    · cases h

/-- A function of values and of rows that makes new rows, or writes what is its caller's own. -/
def Sp.nf {α γ δ : Type} (A : ArgL α) (R : α → γ → Ext → Prop) (res : α → γ → δ → Value) (Q : α → γ → δ → Ext → Ext → Prop) : Sp where
  f bs m E K := match plains bs with
    | some vs => match A.dec vs with
      | some x => ∃ l : γ, Side (R x l E) ∧ ∀ (y : δ) (E' : Ext), Q x l y E E' → K (.v (res x l y)) m E'
      | none => False
    | none => False
  mono := by
    intro bs m E K K' hk h
    split at h
    · split at h
      · obtain ⟨l, h1, h2⟩ := h; exact ⟨l, h1, fun y E' hq => hk _ _ _ (h2 y E' hq)⟩
      · cases h
    · cases h

/-- A method over a variable of the caller's own: it may change it. -/
def Sp.sf {σ α : Type} (S : ArgL σ) (t : TypeId) (A : ArgL α) (pre : σ → α → Prop) (res : σ → α → Value) (nxt : σ → α → σ) : Sp where
  f bs m E K := match bs with
    | .p i 0 :: r => match plains r, m[i]? with
      | some vs, some b => match Nat.beq b.2 t, S.dec b.1, A.dec vs with
        | true, some s, some x => Side (pre s x) ∧ K (.v (res s x)) (m.set i (S.enc (nxt s x), t)) E
        | _, _, _ => False
      | _, _ => False
    | _ => False
  mono := by
    intro bs m E K K' hk h
    split at h
    · split at h
      · split at h
        · exact ⟨h.1, hk _ _ _ h.2⟩
        · cases h
      · cases h
    · cases h

section
variable {P : Program} {EQ : List (TypeId × Nat)} {T : Tab} {D : List (Nat × FS)}

theorem Rel.empty {w : World} {β : List Nat} {m : Mem} {E : Ext} (h : Rel w β E β m E w) : Rel w [] E.shut [] [] E.shut w :=
  ⟨fun _ _ _ h => h, rfl, rfl, ⟨rfl, dLe_refl _⟩, Nat.le_refl _, fun _ _ _ _ => rfl, ⟨[], rfl, by simp⟩, by simp, rfl, fun i b c hi => by simp at hi, fun a v ha => ⟨(h.ext a v ha).1, by simp⟩, fun a v ha => cell_lt (h.ext a v ha).1, fun a v ha _ _ => ha, fun b p hb => (by cases hb), h.glob.shut (by simp)⟩
theorem Rel.emptyO {w : World} {β : List Nat} {m : Mem} {E : Ext} (h : Rel w β E β m E w) : Rel w [] E [] [] E w :=
  ⟨fun _ _ _ h => h, rfl, rfl, ⟨rfl, dLe_refl _⟩, Nat.le_refl _, fun _ _ _ _ => rfl, ⟨[], rfl, by simp⟩, by simp, rfl, fun i b c hi => by simp at hi, fun a v ha => ⟨(h.ext a v ha).1, by simp⟩, fun a v ha => cell_lt (h.ext a v ha).1, fun a v ha _ _ => ha, fun b p hb => ⟨(h.own b p hb).1, by simp, (h.own b p hb).2.2⟩, h.glob.any⟩

/-- What has turned nothing that was there keeps all that is known. -/
theorem Rel.lift0 {w w' : World} {β β' : List Nat} {m m' : Mem} {E E' : Ext} (h : Rel w β E β m E w) (k : Rel w [] E.shut β' m' E' w') : Rel w β E β m E w' := by
  refine ⟨fun _ _ _ h => h, k.os, k.tape, k.output, k.size, fun j hj _ _ => k.old j hj (by simp) rfl, ⟨[], by simp, by simp⟩, h.nodup, h.len, fun i b c hi hc => ?_, fun a v ha => ⟨(k.ext a v (k.ge a v rfl ha)).1, (h.ext a v ha).2⟩, h.dom, fun a v ha _ _ => ha, fun b p hb => ?_, h.glob⟩
  · rw [k.old b (h.lt (List.mem_of_getElem? hi)) (by simp) rfl]
    exact h.blk i b c hi hc
  · obtain ⟨g1, g2, cur, g3, g4⟩ := h.own b p hb
    exact ⟨g1, g2, cur, (k.old b (h.own_lt hb) (by simp) rfl).trans g3, g4⟩
/-- What has written its own rows, or new ones, alone. -/
theorem Rel.liftO {w w' : World} {β β' : List Nat} {m m' : Mem} {E E' : Ext} (h : Rel w β E β m E w) (k : Rel w [] E β' m' E' w') : Rel w β E β m E' w' := by
  have hn : ∀ b, b ∈ β → E.own b = none := fun b hb => by
    cases ho : E.own b with
    | none => rfl
    | some p => exact ((h.own b p ho).2.1 hb).elim
  refine ⟨k.ge, k.os, k.tape, k.output, k.size, fun j hj _ ho => k.old j hj (by simp) ho, ⟨[], by simp, by simp⟩, h.nodup, h.len, fun i b c hi hc => ?_, fun a v ha => ⟨(k.ext a v ha).1, fun hm => ?_⟩, h.dom, k.le0, fun b p hb => ?_, h.glob⟩
  · have hb := List.mem_of_getElem? hi
    rw [k.old b (h.lt hb) (by simp) (hn b hb)]
    exact h.blk i b c hi hc
  · exact (h.ext a v (k.le0 a v ha (h.lt hm) (hn _ hm))).2 hm
  · obtain ⟨g1, _, cur, g3, g4⟩ := k.own b p hb
    refine ⟨g1, fun hm => ?_, cur, g3, g4⟩
    rcases g1 with g1 | g1
    · have := h.lt hm; omega
    · rw [hn b hm] at g1; cases g1

theorem Rel.one {w : World} {β : List Nat} {m : Mem} {E : Ext} (h : Rel w β E β m E w) {i b : Nat} {c : Blk} (hi : β[i]? = some b) (hc : m[i]? = some c) : Rel w [b] E.shut [b] [c] E.shut w := by
  refine ⟨fun _ _ _ h => h, rfl, rfl, ⟨rfl, dLe_refl _⟩, Nat.le_refl _, fun _ _ _ _ => rfl, ⟨[], rfl, by simp⟩, by simp, rfl, fun j b' c' hj hc' => ?_, fun a v ha => ⟨(h.ext a v ha).1, fun hm => ?_⟩, fun a v ha => cell_lt (h.ext a v ha).1, fun a v ha _ _ => ha, fun b p hb => (by cases hb), h.glob.shut fun b' hb' => by rw [List.mem_singleton.1 hb']; exact List.mem_of_getElem? hi⟩
  · cases j with
    | zero => cases hj; cases hc'; exact h.blk i b c hi hc
    | succ j => simp at hj
  · rw [List.mem_singleton] at hm
    exact (h.ext a v ha).2 (by rw [hm]; exact List.mem_of_getElem? hi)

theorem Rel.lift1 {w w' : World} {β β' : List Nat} {m m' : Mem} {E E' : Ext} (h : Rel w β E β m E w) {i b : Nat} {c' : Blk} (hi : β[i]? = some b) (k : Rel w [b] E.shut β' m' E' w') (hc : m'[0]? = some c') : Rel w β E β (m.set i c') E w' := by
  have h0 : β'[0]? = some b := by
    obtain ⟨γ, hγ, _⟩ := k.pre
    rw [hγ]; rfl
  have hbm : b ∈ β := List.mem_of_getElem? hi
  refine ⟨fun _ _ _ h => h, k.os, k.tape, k.output, k.size, fun j hj hn _ => k.old j hj (fun hm => hn (by rw [List.mem_singleton.1 hm]; exact hbm)) rfl, ⟨[], by simp, by simp⟩, h.nodup, by simp [h.len], fun j b' c2 hj hc2 => ?_, fun a v ha => ⟨(k.ext a v (k.ge a v rfl ha)).1, (h.ext a v ha).2⟩, h.dom, fun a v ha _ _ => ha, fun b' p hb' => ?_, h.glob⟩
  · by_cases hij : i = j
    · subst hij
      rw [hi] at hj
      cases hj
      have hl : i < m.length := by rw [← h.len]; exact (List.getElem?_eq_some_iff.1 hi).1
      rw [List.getElem?_set_self hl] at hc2
      cases hc2
      exact k.blk 0 b c' h0 hc
    · rw [List.getElem?_set_ne hij] at hc2
      have hne : b' ≠ b := fun e => by
        subst e
        exact hij ((List.getElem?_inj (List.getElem?_eq_some_iff.1 hi).1 h.nodup).1 (hi.trans hj.symm))
      rw [k.old b' (h.lt (List.mem_of_getElem? hj)) (by simpa using hne) rfl]
      exact h.blk j b' c2 hj hc2
  · obtain ⟨g1, g2, cur, g3, g4⟩ := h.own b' p hb'
    exact ⟨g1, g2, cur, (k.old b' (h.own_lt hb') (fun hm => g2 (by rw [List.mem_singleton.1 hm]; exact hbm)) rfl).trans g3, g4⟩

theorem vs_of {β : List Nat} {l : List Value} {vs : Array Value} (hl : (l.map AV.v).length = vs.size) (hv : ∀ (i : Nat) (a : AV), (l.map AV.v)[i]? = some a → ∃ x, vs[i]? = some x ∧ Conc β a x) : vs = l.toArray := by
  apply Array.ext'
  apply List.ext_getElem?
  intro i
  rw [Array.getElem?_toList]
  by_cases hi : i < l.length
  · obtain ⟨x, hx, hc⟩ := hv i (.v l[i]) (by simp [hi])
    rw [hx]
    simp only [List.getElem?_eq_getElem hi]
    exact congrArg some hc
  · rw [List.getElem?_eq_none (by simp; omega)]
    simp only [List.length_map] at hl
    exact Array.getElem?_eq_none_iff.2 (by omega)

theorem Sp.rf_ok (hm : P.follows .mixedOrders = true) (hEQ : EqOk P EQ) (hT : T.ok P) (D : List (Nat × FS)) {f : FuncId} {fn : Func} {c : Code} (hf : P.funcs[f]? = some fn) (hb : fn.body = some c) (hD : codeOk (ofD D) c = true) {α γ : Type} (A : ArgL α) (R : α → γ → Ext → Prop) (res : α → γ → Value)
    (h : ∀ (x : α) (l : γ) (E : Ext), R x l E → forceFr ((A.enc x).map .v ++ List.replicate (fn.ntmps - ((A.enc x).map AV.v).length) (.v undef)) fun fr => ew P EQ T D c (fin P fn fun r _ _ => Don (r = .v (res x l))) ⟨fr, [], E⟩)
    (hRs : ∀ x l E, R x l E → R x l E.shut := by exact fun _ _ _ h => h) :
    Sp.ok P f (Sp.rf A R res) := by
  intro bs m E K hk w β vs hR hl hv
  simp only [Sp.rf] at hk
  split at hk
  · rename_i us hus
    split at hk
    · rename_i x hx
      obtain ⟨l, hp, hk⟩ := hk
      have he := A.ok hx
      have hb' := plains_eq hus
      subst hb'
      have hvs := vs_of hl hv
      subst hvs
      refine (calls_of_aw hm hEQ hT D hf hb (hR.empty) (as := (A.enc x).map .v) (vs := us.toArray) (by rw [he]; simp) (fun i a hi => ?_) (K := fun r _ _ => Don (r = .v (res x l))) hD (forceFr_out (h x l E.shut (hRs _ _ _ hp.out)))).mono fun e w' hp' => ?_
      · rw [List.getElem?_map] at hi
        cases hu : (A.enc x)[i]? with
        | none => rw [hu] at hi; cases hi
        | some u =>
          rw [hu] at hi
          cases hi
          exact ⟨u, by rw [he]; simpa using hu, rfl⟩
      · obtain ⟨r, m', E', β', y, rfl, hc, hr, hfin⟩ := hp'
        obtain rfl := hfin.out
        exact ⟨.v (res x l), m, E, β, y, rfl, hc, hR.lift0 hr, hk⟩
    · cases hk
  · cases hk

theorem Sp.nf_ok (hm : P.follows .mixedOrders = true) (hEQ : EqOk P EQ) (hT : T.ok P) (D : List (Nat × FS)) {f : FuncId} {fn : Func} {c : Code} (hf : P.funcs[f]? = some fn) (hb : fn.body = some c) (hD : codeOk (ofD D) c = true) {α γ δ : Type} (A : ArgL α) (R : α → γ → Ext → Prop) (res : α → γ → δ → Value) (Q : α → γ → δ → Ext → Ext → Prop)
    (h : ∀ (x : α) (l : γ) (E : Ext), R x l E → forceFr ((A.enc x).map .v ++ List.replicate (fn.ntmps - ((A.enc x).map AV.v).length) (.v undef)) fun fr => ew P EQ T D c (fin P fn fun r _ E' => Don (∃ y : δ, r = .v (res x l y) ∧ Q x l y E E')) ⟨fr, [], E⟩) :
    Sp.ok P f (Sp.nf A R res Q) := by
  intro bs m E K hk w β vs hR hl hv
  simp only [Sp.nf] at hk
  split at hk
  · rename_i us hus
    split at hk
    · rename_i x hx
      obtain ⟨l, hp, hk⟩ := hk
      have he := A.ok hx
      have hb' := plains_eq hus
      subst hb'
      have hvs := vs_of hl hv
      subst hvs
      refine (calls_of_aw hm hEQ hT D hf hb (hR.emptyO) (as := (A.enc x).map .v) (vs := us.toArray) (by rw [he]; simp) (fun i a hi => ?_) (K := fun r _ E' => Don (∃ y : δ, r = .v (res x l y) ∧ Q x l y E E')) hD (forceFr_out (h x l E hp.out))).mono fun e w' hp' => ?_
      · rw [List.getElem?_map] at hi
        cases hu : (A.enc x)[i]? with
        | none => rw [hu] at hi; cases hi
        | some u =>
          rw [hu] at hi
          cases hi
          exact ⟨u, by rw [he]; simpa using hu, rfl⟩
      · obtain ⟨r, m', E', β', y, rfl, hc, hr, hfin⟩ := hp'
        obtain ⟨z, rfl, hq⟩ := hfin.out
        exact ⟨.v (res x l z), m, E', β, y, rfl, hc, hR.liftO hr, hk z E' hq⟩
    · cases hk
  · cases hk

theorem Sp.pf_ok (hm : P.follows .mixedOrders = true) (hEQ : EqOk P EQ) (hT : T.ok P) (D : List (Nat × FS)) {f : FuncId} {fn : Func} {c : Code} (hf : P.funcs[f]? = some fn) (hb : fn.body = some c) (hD : codeOk (ofD D) c = true) {α : Type} (A : ArgL α) (pre : α → Prop) (res : α → Value)
    (h : ∀ (x : α) (E : Ext), pre x → forceFr ((A.enc x).map .v ++ List.replicate (fn.ntmps - ((A.enc x).map AV.v).length) (.v undef)) fun fr => ew P EQ T D c (fin P fn fun r _ _ => Don (r = .v (res x))) ⟨fr, [], E⟩) :
    Sp.ok P f (Sp.pf A pre res) := by
  intro bs m E K hk w β vs hR hl hv
  have h1 := Sp.rf_ok (γ := Unit) hm hEQ hT D hf hb hD A (fun x _ _ => pre x) (fun x _ => res x) (fun x _ E hp => h x E hp) (fun _ _ _ h => h) bs m E K
  refine h1 ?_ w β vs hR hl hv
  simp only [Sp.pf] at hk
  simp only [Sp.rf]
  split at hk
  · split at hk
    · exact ⟨(), hk.1, hk.2⟩
    · cases hk
  · cases hk

theorem Sp.sf_ok (hm : P.follows .mixedOrders = true) (hEQ : EqOk P EQ) (hT : T.ok P) (D : List (Nat × FS)) {f : FuncId} {fn : Func} {c : Code} (hf : P.funcs[f]? = some fn) (hb : fn.body = some c) (hD : codeOk (ofD D) c = true) {σ α : Type} (S : ArgL σ) (t : TypeId) (A : ArgL α) (pre : σ → α → Prop) (res : σ → α → Value) (nxt : σ → α → σ)
    (h : ∀ (s : σ) (x : α) (E : Ext), pre s x → forceMem [(S.enc s, t)] fun m => forceFr (.p 0 0 :: (A.enc x).map .v ++ List.replicate (fn.ntmps - (AV.p 0 0 :: (A.enc x).map AV.v).length) (.v undef)) fun fr => ew P EQ T D c (fin P fn fun r m' _ => Don (r = .v (res s x) ∧ m'[0]? = some (S.enc (nxt s x), t))) ⟨fr, m, E⟩) :
    Sp.ok P f (Sp.sf S t A pre res nxt) := by
  intro bs m E K hk w β vs hR hl hv
  simp only [Sp.sf] at hk
  split at hk
  · rename_i i r
    split at hk
    · rename_i us b hus hbm
      split at hk
      · rename_i s x ht hs hx
        obtain ⟨hp, hk⟩ := hk
        have hb2 := Nat.eq_of_beq_eq_true ht
        obtain ⟨cs, t'⟩ := b
        simp only at hb2 hs
        subst hb2
        have he := A.ok hx
        have hse := S.ok hs
        have hb' := plains_eq hus
        subst hb'
        obtain ⟨x0, hx0, g, hg, hxg⟩ := hv 0 _ rfl
        refine (calls_of_aw hm hEQ hT D hf hb (hR.one hg hbm) (as := .p 0 0 :: (A.enc x).map .v) (vs := vs) (by rw [← he]; simpa using hl) (fun j a hj => ?_) (K := fun r m' _ => Don (r = .v (res s x) ∧ m'[0]? = some (S.enc (nxt s x), t'))) hD (by have := forceFr_out (forceMem_out (h s x E.shut hp.out)); rw [← hse] at this; exact this)).mono fun e w' hp' => ?_
        · cases j with
          | zero => cases hj; exact ⟨x0, hx0, g, rfl, hxg⟩
          | succ j =>
            rw [← he] at hj
            obtain ⟨y, hy, hc⟩ := hv (j + 1) a hj
            refine ⟨y, hy, ?_⟩
            rw [List.getElem?_cons_succ, List.getElem?_map] at hj
            cases hu : us[j]? with
            | none => rw [hu] at hj; cases hj
            | some u => rw [hu] at hj; cases hj; exact hc
        · obtain ⟨r, m', E', β', y, rfl, hc, hr, hfin⟩ := hp'
          obtain ⟨rfl, hm'⟩ := hfin.out
          exact ⟨.v (res s x), _, E, β, y, rfl, hc, hR.lift1 hg hr hm', hk⟩
      · cases hk
    · cases hk
  · cases hk

end
end Go.Proofs.Ytjibkphhlflpeaa.Ab

namespace Go.Proofs.Ytjibkphhlflpeaa.Ab
theorem ex_side {α : Sort _} {p q : α → Prop} {a : α} (h : p a) (k : q a) : ∃ a, Side (p a) ∧ q a := ⟨a, Side.mk h, k⟩
/-- A function, as an argument. -/
def Arg.fnc (g : FuncId) : Arg Unit where
  enc _ := .func (.func g) #[] #[]
  dec | .func (.func h) a b => match Nat.beq h g && (Nat.beq a.size 0 && Nat.beq b.size 0) with
        | true => some ()
        | false => none
      | _ => none
  ok := by
    intro v x h
    split at h
    · rename_i f a b
      split at h
      · rename_i hg
        simp only [Bool.and_eq_true] at hg
        have h1 := Nat.eq_of_beq_eq_true hg.1
        have h2 := Nat.eq_of_beq_eq_true hg.2.1
        have h3 := Nat.eq_of_beq_eq_true hg.2.2
        rw [h1, Array.size_eq_zero_iff.1 h2, Array.size_eq_zero_iff.1 h3]
      · cases h
    · cases h
/-- What a slice's elements are: c cells each. -/
def RowAt {α : Type} (enc : α → List Value) (c : Nat) (s : SlV) (l : List α) (E : Ext) : Prop := s.n = l.length ∧ s.n ≤ maxLen ∧ (s.a = none → l = []) ∧ ∀ a, s.a = some a → ∀ i x, l[i]? = some x → ∀ j v, (enc x)[j]? = some v → E ((a.add (i * c)).add j) = some v
theorem RowAt.at {α : Type} {enc : α → List Value} {c : Nat} {s : SlV} {l : List α} {E : Ext} (h : RowAt enc c s l E) {a : Addr} (ha : s.a = some a) {k : Nat} {x : α} (hk : l[k]? = some x) (j : Nat) {v : Value} (hj : (enc x)[j]? = some v) : E ((a.add ((k : Int).toNat * c)).add j) = some v := h.2.2.2 a ha _ x (by simpa using hk) j v hj
theorem RowAt.at1 {α : Type} {enc : α → List Value} {c : Nat} {s : SlV} {l : List α} {E : Ext} (h : RowAt enc c s l E) {a : Addr} (ha : s.a = some a) {k : Nat} {x : α} (hk : l[k]? = some x) {v : Value} (hj : (enc x)[0]? = some v) : E (a.add ((k : Int).toNat * c)) = some v := h.at ha hk 0 hj
theorem RowAt.le {α : Type} {enc : α → List Value} {c : Nat} {s : SlV} {l : List α} {E E' : Ext} (h : RowAt enc c s l E) (hE : Ext.le E E') : RowAt enc c s l E' := ⟨h.1, h.2.1, h.2.2.1, fun a ha i q hq j v hj => hE _ _ (h.2.2.2 a ha i q hq j v hj)⟩
/-- A slice's fractions. -/
abbrev FracsAt (s : SlV) (l : List Q) (E : Ext) : Prop := RowAt Q.cells 2 s l E
/-- A slice's spans. -/
abbrev SpansAt (s : SlV) (l : List Sn) (E : Ext) : Prop := RowAt Sn.cells 4 s l E
/-- A slice's numbers. -/
abbrev IntsAt (k : IntKind) (s : SlV) (l : List Int) (E : Ext) : Prop := RowAt (fun n => [.int k n]) 1 s l E
theorem FracsAt.at {s : SlV} {l : List Q} {E : Ext} (h : FracsAt s l E) {a : Addr} (ha : s.a = some a) {k : Nat} {q : Q} (hk : l[k]? = some q) : E ((a.add ((k : Int).toNat * 2)).add 0) = some (.int .i64 q.p) ∧ E ((a.add ((k : Int).toNat * 2)).add (0 + 1)) = some (.int .i64 q.q) := ⟨RowAt.at h ha hk 0 rfl, RowAt.at h ha hk 1 rfl⟩
theorem SpansAt.at {s : SlV} {l : List Sn} {E : Ext} (h : SpansAt s l E) {a : Addr} (ha : s.a = some a) {k : Nat} {q : Sn} (hk : l[k]? = some q) : E ((a.add ((k : Int).toNat * 4)).add 0) = some (.int .i64 q.lo.p) ∧ E ((a.add ((k : Int).toNat * 4)).add (0 + 1)) = some (.int .i64 q.lo.q) ∧ E ((a.add ((k : Int).toNat * 4)).add (0 + 1 + 1)) = some (.int .i64 q.hi.p) ∧ E ((a.add ((k : Int).toNat * 4)).add (0 + 1 + 1 + 1)) = some (.int .i64 q.hi.q) :=
  ⟨RowAt.at h ha hk 0 rfl, RowAt.at h ha hk 1 rfl, RowAt.at h ha hk 2 rfl, RowAt.at h ha hk 3 rfl⟩
/-- The cells of a fraction, of a span. -/
def ArgL.q : ArgL Q := ⟨Q.cells, qDec, fun h => qDec_ok h⟩
def ArgL.sn : ArgL Sn := ⟨Sn.cells, snDec, fun h => snDec_ok h⟩
/-- A pointer to what lies in memory. -/
def Arg.ptr : Arg Addr where
  enc a := .pointer (some a)
  dec | .pointer (some a) => some a
      | _ => none
  ok := by intro v x h; split at h <;> simp_all
def PtrAt {α : Type} (enc : α → List Value) (a : Addr) (x : α) (E : Ext) : Prop := ∀ j v, (enc x)[j]? = some v → E (a.add j) = some v
theorem Ext.self (_ : Ext) : True := trivial
theorem Value.self (_ : Value) : True := trivial
theorem SlV.self (_ : SlV) : True := trivial
theorem NewRow.self {E : Ext} {cs : List Value} {e : TypeId} (_ : NewRow E cs e) : True := trivial
theorem NewRow.keep {E : Ext} {cs : List Value} {e : TypeId} (r : NewRow E cs e) {a : Addr} {v : Value} (h : E a = some v) : r.to a = some v := r.le a v h
theorem RowAt.keep {α : Type} {enc : α → List Value} {c : Nat} {s : SlV} {l : List α} {E : Ext} {cs : List Value} {e : TypeId} (r : NewRow E cs e) (h : RowAt enc c s l E) : RowAt enc c s l r.to := h.le r.le
theorem flat_at {α : Type} {enc : α → List Value} {c : Nat} (hc : ∀ x, (enc x).length = c) : ∀ {l : List α} {i : Nat} {x : α} {j : Nat} {v : Value}, l[i]? = some x → (enc x)[j]? = some v → (l.flatMap enc)[i * c + j]? = some v
  | [], i, x, j, v, h, _ => by simp at h
  | a :: l, 0, x, j, v, h, hj => by
    simp only [List.getElem?_cons_zero, Option.some.injEq] at h
    subst h
    have := (List.getElem?_eq_some_iff.1 hj).1
    rw [List.flatMap_cons, Nat.zero_mul, Nat.zero_add, List.getElem?_append_left this]
    exact hj
  | a :: l, i + 1, x, j, v, h, hj => by
    rw [List.getElem?_cons_succ] at h
    have := flat_at hc h hj
    rw [List.flatMap_cons, List.getElem?_append_right (by rw [hc, Nat.succ_mul]; omega), hc, ← this]
    congr 1
    rw [Nat.succ_mul]
    omega
theorem row_new {α : Type} {enc : α → List Value} {c : Nat} (hc : ∀ x, (enc x).length = c) {E : Ext} {e : TypeId} (l : List α) (r : NewRow E (l.flatMap enc) e) (n cap : Nat) (hn : n = l.length) (hm : l.length ≤ maxLen) : RowAt enc c ⟨some ⟨r.b, 0, none⟩, n, cap⟩ l r.to := by
  refine ⟨hn, hn ▸ hm, fun h => by simp at h, fun a ha i x hx j v hj => ?_⟩
  simp only [Option.some.injEq] at ha
  subst ha
  rw [← flat_at hc hx hj, ← r.at_, Go.Deep.add_add, addr_add]
  simp
theorem fracs1 {E : Ext} {e : TypeId} {p q : Int} (r : NewRow E [.int .i64 p, .int .i64 q] e) : FracsAt ⟨some ⟨r.b, 0, none⟩, 1, 1⟩ [⟨p, q⟩] r.to := row_new (enc := Q.cells) (c := 2) (fun _ => rfl) [(⟨p, q⟩ : Q)] r 1 1 rfl (by simp [maxLen])
theorem fracs2 {E : Ext} {e : TypeId} {p q p' q' : Int} (r : NewRow E [.int .i64 p, .int .i64 q, .int .i64 p', .int .i64 q'] e) : FracsAt ⟨some ⟨r.b, 0, none⟩, 2, 2⟩ [⟨p, q⟩, ⟨p', q'⟩] r.to := row_new (enc := Q.cells) (c := 2) (fun _ => rfl) [(⟨p, q⟩ : Q), ⟨p', q'⟩] r 2 2 rfl (by simp [maxLen])
theorem fracs3 {E : Ext} {e : TypeId} {p q p' q' u v : Int} (r : NewRow E [.int .i64 p, .int .i64 q, .int .i64 p', .int .i64 q', .int .i64 u, .int .i64 v] e) : FracsAt ⟨some ⟨r.b, 0, none⟩, 3, 3⟩ [⟨p, q⟩, ⟨p', q'⟩, ⟨u, v⟩] r.to := row_new (enc := Q.cells) (c := 2) (fun _ => rfl) [(⟨p, q⟩ : Q), ⟨p', q'⟩, ⟨u, v⟩] r 3 3 rfl (by simp [maxLen])
theorem spans1 {E : Ext} {e : TypeId} {p q p' q' : Int} (r : NewRow E [.int .i64 p, .int .i64 q, .int .i64 p', .int .i64 q'] e) : SpansAt ⟨some ⟨r.b, 0, none⟩, 1, 1⟩ [⟨⟨p, q⟩, ⟨p', q'⟩⟩] r.to := row_new (enc := Sn.cells) (c := 4) (fun _ => rfl) [(⟨⟨p, q⟩, ⟨p', q'⟩⟩ : Sn)] r 1 1 rfl (by simp [maxLen])
theorem spans2 {E : Ext} {e : TypeId} {p q p' q' u v u' v' : Int} (r : NewRow E [.int .i64 p, .int .i64 q, .int .i64 p', .int .i64 q', .int .i64 u, .int .i64 v, .int .i64 u', .int .i64 v'] e) : SpansAt ⟨some ⟨r.b, 0, none⟩, 2, 2⟩ [⟨⟨p, q⟩, ⟨p', q'⟩⟩, ⟨⟨u, v⟩, ⟨u', v'⟩⟩] r.to := row_new (enc := Sn.cells) (c := 4) (fun _ => rfl) [(⟨⟨p, q⟩, ⟨p', q'⟩⟩ : Sn), ⟨⟨u, v⟩, ⟨u', v'⟩⟩] r 2 2 rfl (by simp [maxLen])
theorem wrap_succ {k n : Nat} (h : k < n) (hn : n ≤ maxLen) : IntKind.i64.wrap ((k : Int) + 1) = ((k + 1 : Nat) : Int) := by
  unfold maxLen at hn
  simp [IntKind.wrap, IntKind.signed, IntKind.bits]
  omega
/-! ### contracts of functions over variables of the caller's own, and over rows -/
/-- One variable of the caller's, which may change; and rows that are read. -/
def Sp.gf {σ α γ : Type} (S : ArgL σ) (t : TypeId) (A : ArgL α) (R : σ → α → γ → Ext → Prop) (res : σ → α → γ → Value) (nxt : σ → α → γ → σ) : Sp where
  f bs m E K := match bs with
    | .p i 0 :: r => match plains r, m[i]? with
      | some vs, some b => match Nat.beq b.2 t, S.dec b.1, A.dec vs with
        | true, some s, some x => ∃ l : γ, Side (R s x l E) ∧ K (.v (res s x l)) (m.set i (S.enc (nxt s x l), t)) E
        | _, _, _ => False
      | _, _ => False
    | _ => False
  mono := by
    intro bs m E K K' hk h
    split at h
    · split at h
      · split at h
        · obtain ⟨l, h1, h2⟩ := h; exact ⟨l, h1, hk _ _ _ h2⟩
        · cases h
      · cases h
    · cases h
/-- One variable of the caller's that is only read; and rows that are read. -/
def Sp.hf {σ α γ : Type} (S : ArgL σ) (t : TypeId) (A : ArgL α) (R : σ → α → γ → Ext → Prop) (res : σ → α → γ → Value) : Sp where
  f bs m E K := match bs with
    | .p i 0 :: r => match plains r, m[i]? with
      | some vs, some b => match Nat.beq b.2 t, S.dec b.1, A.dec vs with
        | true, some s, some x => ∃ l : γ, Side (R s x l E) ∧ K (.v (res s x l)) m E
        | _, _, _ => False
      | _, _ => False
    | _ => False
  mono := by
    intro bs m E K K' hk h
    split at h
    · split at h
      · split at h
        · obtain ⟨l, h1, h2⟩ := h; exact ⟨l, h1, hk _ _ _ h2⟩
        · cases h
      · cases h
    · cases h
/-- Two variables of the caller's that are only read; and rows that are read. -/
def Sp.hf2 {σ τ α γ : Type} (S : ArgL σ) (t : TypeId) (S' : ArgL τ) (t' : TypeId) (A : ArgL α) (R : σ → τ → α → γ → Ext → Prop) (res : σ → τ → α → γ → Value) : Sp where
  f bs m E K := match bs with
    | .p i 0 :: .p j 0 :: r => match Nat.beq i j, plains r, m[i]?, m[j]? with
      | false, some vs, some b, some c => match Nat.beq b.2 t, S.dec b.1, Nat.beq c.2 t', S'.dec c.1, A.dec vs with
        | true, some s, true, some s', some x => ∃ l : γ, Side (R s s' x l E) ∧ K (.v (res s s' x l)) m E
        | _, _, _, _, _ => False
      | _, _, _, _ => False
    | _ => False
  mono := by
    intro bs m E K K' hk h
    split at h
    · split at h
      · split at h
        · obtain ⟨l, h1, h2⟩ := h; exact ⟨l, h1, hk _ _ _ h2⟩
        · cases h
      · cases h
    · cases h

section
variable {P : Program} {EQ : List (TypeId × Nat)} {T : Tab} {D : List (Nat × FS)}

theorem Rel.two {w : World} {β : List Nat} {m : Mem} {E : Ext} (h : Rel w β E β m E w) {i j b b' : Nat} {c c' : Blk} (hi : β[i]? = some b) (hc : m[i]? = some c) (hj : β[j]? = some b') (hc' : m[j]? = some c') (hij : i ≠ j) : Rel w [b, b'] E.shut [b, b'] [c, c'] E.shut w := by
  have hne : b ≠ b' := fun e => by
    subst e
    exact hij ((List.getElem?_inj (List.getElem?_eq_some_iff.1 hi).1 h.nodup).1 (hi.trans hj.symm))
  have hin : ∀ q, q ∈ [b, b'] → q ∈ β := fun q hm => by
    rw [List.mem_cons, List.mem_singleton] at hm
    rcases hm with hm | hm
    · rw [hm]; exact List.mem_of_getElem? hi
    · rw [hm]; exact List.mem_of_getElem? hj
  refine ⟨fun _ _ _ h => h, rfl, rfl, ⟨rfl, dLe_refl _⟩, Nat.le_refl _, fun _ _ _ _ => rfl, ⟨[], rfl, by simp⟩, by simpa using hne, rfl, fun k b2 c2 hk hc2 => ?_, fun a v ha => ⟨(h.ext a v ha).1, fun hm => ?_⟩, fun a v ha => cell_lt (h.ext a v ha).1, fun a v ha _ _ => ha, fun b p hb => (by cases hb), h.glob.shut hin⟩
  · match k, hk, hc2 with
    | 0, hk, hc2 => cases hk; cases hc2; exact h.blk i b c hi hc
    | 1, hk, hc2 => cases hk; cases hc2; exact h.blk j b' c' hj hc'
    | k + 2, hk, hc2 => simp at hk
  · rw [List.mem_cons, List.mem_singleton] at hm
    rcases hm with hm | hm
    · exact (h.ext a v ha).2 (by rw [hm]; exact List.mem_of_getElem? hi)
    · exact (h.ext a v ha).2 (by rw [hm]; exact List.mem_of_getElem? hj)
/-- What has left the caller's variables as they were keeps all that is known. -/
theorem Rel.lift2 {w w' : World} {β β' : List Nat} {m m' : Mem} {E E' : Ext} (h : Rel w β E β m E w) {i j b b' : Nat} {c c' : Blk} (hi : β[i]? = some b) (hc : m[i]? = some c) (hj : β[j]? = some b') (hc' : m[j]? = some c') (k : Rel w [b, b'] E.shut β' m' E' w') (h0 : m'[0]? = some c) (h1 : m'[1]? = some c') : Rel w β E β m E w' := by
  obtain ⟨γ, hγ, _⟩ := k.pre
  have g0 : β'[0]? = some b := by rw [hγ]; rfl
  have g1 : β'[1]? = some b' := by rw [hγ]; rfl
  have in2 : ∀ q, q ∈ [b, b'] → q ∈ β := fun q hm => by
    rw [List.mem_cons, List.mem_singleton] at hm
    rcases hm with hm | hm
    · rw [hm]; exact List.mem_of_getElem? hi
    · rw [hm]; exact List.mem_of_getElem? hj
  refine ⟨fun _ _ _ h => h, k.os, k.tape, k.output, k.size, fun q hq hn _ => k.old q hq (fun hm => hn (in2 q hm)) rfl, ⟨[], by simp, by simp⟩, h.nodup, h.len, fun q b2 c2 hq hc2 => ?_, fun a v ha => ⟨(k.ext a v (k.ge a v rfl ha)).1, (h.ext a v ha).2⟩, h.dom, fun a v ha _ _ => ha, fun b2 p hb2 => ?_, h.glob⟩
  · by_cases e0 : b2 = b
    · subst e0
      have := (List.getElem?_inj (List.getElem?_eq_some_iff.1 hi).1 h.nodup).1 (hi.trans hq.symm)
      subst this
      rw [hc] at hc2
      cases hc2
      exact k.blk 0 b2 c g0 h0
    · by_cases e1 : b2 = b'
      · subst e1
        have := (List.getElem?_inj (List.getElem?_eq_some_iff.1 hj).1 h.nodup).1 (hj.trans hq.symm)
        subst this
        rw [hc'] at hc2
        cases hc2
        exact k.blk 1 b2 c' g1 h1
      · rw [k.old b2 (h.lt (List.mem_of_getElem? hq)) (by simp [e0, e1]) rfl]
        exact h.blk q b2 c2 hq hc2
  · obtain ⟨k1, k2, cur, k3, k4⟩ := h.own b2 p hb2
    exact ⟨k1, k2, cur, (k.old b2 (h.own_lt hb2) (fun hm => k2 (in2 b2 hm)) rfl).trans k3, k4⟩

theorem Sp.gf_ok (hm : P.follows .mixedOrders = true) (hEQ : EqOk P EQ) (hT : T.ok P) (D : List (Nat × FS)) {f : FuncId} {fn : Func} {c : Code} (hf : P.funcs[f]? = some fn) (hb : fn.body = some c) (hD : codeOk (ofD D) c = true) {σ α γ : Type} (S : ArgL σ) (t : TypeId) (A : ArgL α) (R : σ → α → γ → Ext → Prop) (res : σ → α → γ → Value) (nxt : σ → α → γ → σ)
    (h : ∀ (s : σ) (x : α) (l : γ) (E : Ext), R s x l E → forceMem [(S.enc s, t)] fun m => forceFr (.p 0 0 :: (A.enc x).map .v ++ List.replicate (fn.ntmps - (AV.p 0 0 :: (A.enc x).map AV.v).length) (.v undef)) fun fr => ew P EQ T D c (fin P fn fun r m' _ => Don (r = .v (res s x l) ∧ m'[0]? = some (S.enc (nxt s x l), t))) ⟨fr, m, E⟩)
    (hRs : ∀ s x l E, R s x l E → R s x l E.shut := by exact fun _ _ _ _ h => h) :
    Sp.ok P f (Sp.gf S t A R res nxt) := by
  intro bs m E K hk w β vs hR hl hv
  simp only [Sp.gf] at hk
  split at hk
  · rename_i i r
    split at hk
    · rename_i us b hus hbm
      split at hk
      · rename_i s x ht hs hx
        obtain ⟨l, hp, hk⟩ := hk
        have hb2 := Nat.eq_of_beq_eq_true ht
        obtain ⟨cs, t'⟩ := b
        simp only at hb2 hs
        subst hb2
        have he := A.ok hx
        have hse := S.ok hs
        have hb' := plains_eq hus
        subst hb'
        obtain ⟨x0, hx0, g, hg, hxg⟩ := hv 0 _ rfl
        refine (calls_of_aw hm hEQ hT D hf hb (hR.one hg hbm) (as := .p 0 0 :: (A.enc x).map .v) (vs := vs) (by rw [← he]; simpa using hl) (fun j a hj => ?_) (K := fun r m' _ => Don (r = .v (res s x l) ∧ m'[0]? = some (S.enc (nxt s x l), t'))) hD (by have := forceFr_out (forceMem_out (h s x l E.shut (hRs _ _ _ _ hp.out))); rw [← hse] at this; exact this)).mono fun e w' hp' => ?_
        · cases j with
          | zero => cases hj; exact ⟨x0, hx0, g, rfl, hxg⟩
          | succ j =>
            rw [← he] at hj
            obtain ⟨y, hy, hc⟩ := hv (j + 1) a hj
            refine ⟨y, hy, ?_⟩
            rw [List.getElem?_cons_succ, List.getElem?_map] at hj
            cases hu : us[j]? with
            | none => rw [hu] at hj; cases hj
            | some u => rw [hu] at hj; cases hj; exact hc
        · obtain ⟨r, m', E', β', y, rfl, hc, hr, hfin⟩ := hp'
          obtain ⟨rfl, hm'⟩ := hfin.out
          exact ⟨.v (res s x l), _, E, β, y, rfl, hc, hR.lift1 hg hr hm', hk⟩
      · cases hk
    · cases hk
  · cases hk

theorem list_set_self {α : Type} {l : List α} {i : Nat} {a : α} (h : l[i]? = some a) : l.set i a = l := by
  apply List.ext_getElem?
  intro j
  by_cases hj : i = j
  · subst hj
    rw [List.getElem?_set_self (List.getElem?_eq_some_iff.1 h).1, h]
  · rw [List.getElem?_set_ne hj]

theorem Sp.hf_ok (hm : P.follows .mixedOrders = true) (hEQ : EqOk P EQ) (hT : T.ok P) (D : List (Nat × FS)) {f : FuncId} {fn : Func} {c : Code} (hf : P.funcs[f]? = some fn) (hb : fn.body = some c) (hD : codeOk (ofD D) c = true) {σ α γ : Type} (S : ArgL σ) (t : TypeId) (A : ArgL α) (R : σ → α → γ → Ext → Prop) (res : σ → α → γ → Value)
    (h : ∀ (s : σ) (x : α) (l : γ) (E : Ext), R s x l E → forceMem [(S.enc s, t)] fun m => forceFr (.p 0 0 :: (A.enc x).map .v ++ List.replicate (fn.ntmps - (AV.p 0 0 :: (A.enc x).map AV.v).length) (.v undef)) fun fr => ew P EQ T D c (fin P fn fun r m' _ => Don (r = .v (res s x l) ∧ m'[0]? = some (S.enc s, t))) ⟨fr, m, E⟩)
    (hRs : ∀ s x l E, R s x l E → R s x l E.shut := by exact fun _ _ _ _ h => h) :
    Sp.ok P f (Sp.hf S t A R res) := by
  intro bs m E K hk
  refine Sp.gf_ok hm hEQ hT D hf hb hD S t A R res (fun s _ _ => s) h hRs bs m E K ?_
  simp only [Sp.hf] at hk
  simp only [Sp.gf]
  split at hk
  · split at hk
    · rename_i us b hus hbm
      split at hk
      · rename_i s x ht hs hx
        obtain ⟨l, hp, hk⟩ := hk
        refine ⟨l, hp, ?_⟩
        have hb2 := Nat.eq_of_beq_eq_true ht
        have he := S.ok hs
        rw [list_set_self]
        · exact hk
        · rw [hbm, ← he, ← hb2]
      · cases hk
    · cases hk
  · cases hk

theorem Sp.hf2_ok (hm : P.follows .mixedOrders = true) (hEQ : EqOk P EQ) (hT : T.ok P) (D : List (Nat × FS)) {f : FuncId} {fn : Func} {c : Code} (hf : P.funcs[f]? = some fn) (hb : fn.body = some c) (hD : codeOk (ofD D) c = true) {σ τ α γ : Type} (S : ArgL σ) (t : TypeId) (S' : ArgL τ) (t' : TypeId) (A : ArgL α) (R : σ → τ → α → γ → Ext → Prop) (res : σ → τ → α → γ → Value)
    (h : ∀ (s : σ) (s' : τ) (x : α) (l : γ) (E : Ext), R s s' x l E → forceMem [(S.enc s, t), (S'.enc s', t')] fun m => forceFr (.p 0 0 :: .p 1 0 :: (A.enc x).map .v ++ List.replicate (fn.ntmps - (AV.p 0 0 :: .p 1 0 :: (A.enc x).map AV.v).length) (.v undef)) fun fr => ew P EQ T D c (fin P fn fun r m' _ => Don (r = .v (res s s' x l) ∧ m'[0]? = some (S.enc s, t) ∧ m'[1]? = some (S'.enc s', t'))) ⟨fr, m, E⟩)
    (hRs : ∀ s s' x l E, R s s' x l E → R s s' x l E.shut := by exact fun _ _ _ _ _ h => h) :
    Sp.ok P f (Sp.hf2 S t S' t' A R res) := by
  intro bs m E K hk w β vs hR hl hv
  simp only [Sp.hf2] at hk
  split at hk
  · rename_i i j r
    split at hk
    · rename_i us b b' hij hus hbm hbm'
      split at hk
      · rename_i s s' x ht hs ht' hs' hx
        obtain ⟨l, hp, hk⟩ := hk
        have hb2 := Nat.eq_of_beq_eq_true ht
        have hb3 := Nat.eq_of_beq_eq_true ht'
        obtain ⟨cs, t2⟩ := b
        obtain ⟨cs', t2'⟩ := b'
        simp only at hb2 hs hb3 hs'
        subst hb2
        subst hb3
        have he := A.ok hx
        have hse := S.ok hs
        have hse' := S'.ok hs'
        have hb' := plains_eq hus
        subst hb'
        have hne : i ≠ j := Nat.ne_of_beq_eq_false hij
        obtain ⟨x0, hx0, g, hg, hxg⟩ := hv 0 _ rfl
        obtain ⟨x1, hx1, g1, hg1, hxg1⟩ := hv 1 _ rfl
        refine (calls_of_aw hm hEQ hT D hf hb (hR.two hg hbm hg1 hbm' hne) (as := .p 0 0 :: .p 1 0 :: (A.enc x).map .v) (vs := vs) (by rw [← he]; simpa using hl) (fun k a hk' => ?_) (K := fun r m' _ => Don (r = .v (res s s' x l) ∧ m'[0]? = some (S.enc s, t2) ∧ m'[1]? = some (S'.enc s', t2'))) hD (by have := forceFr_out (forceMem_out (h s s' x l E.shut (hRs _ _ _ _ _ hp.out))); rw [← hse, ← hse'] at this; rw [← hse, ← hse']; exact this)).mono fun e w' hp' => ?_
        · match k, hk' with
          | 0, hk' => cases hk'; exact ⟨x0, hx0, g, rfl, hxg⟩
          | 1, hk' => cases hk'; exact ⟨x1, hx1, g1, rfl, hxg1⟩
          | k + 2, hj =>
            rw [← he] at hj
            obtain ⟨y, hy, hc⟩ := hv (k + 2) a hj
            refine ⟨y, hy, ?_⟩
            rw [List.getElem?_cons_succ, List.getElem?_cons_succ, List.getElem?_map] at hj
            cases hu : us[k]? with
            | none => rw [hu] at hj; cases hj
            | some u => rw [hu] at hj; cases hj; exact hc
        · obtain ⟨r, m', E', β', y, rfl, hc, hr, hfin⟩ := hp'
          obtain ⟨rfl, hm0, hm1⟩ := hfin.out
          rw [← hse] at hm0
          rw [← hse'] at hm1
          exact ⟨.v (res s s' x l), m, E, β, y, rfl, hc, hR.lift2 hg hbm hg1 hbm' hr hm0 hm1, hk⟩
      · cases hk
    · cases hk
  · cases hk
end
end Go.Proofs.Ytjibkphhlflpeaa.Ab
namespace Go.Proofs.Ytjibkphhlflpeaa.Ab
/-! ### the same contracts with a name for what comes back -/
@[irreducible] def AllEq {α : Type} (o : α) (K : α → Prop) : Prop := K o
theorem AllEq.mk {α : Type} {o : α} {K : α → Prop} (h : ∀ y, y = o → K y) : AllEq o K := by unfold AllEq; exact h o rfl
theorem AllEq.out {α : Type} {o : α} {K : α → Prop} (h : AllEq o K) : K o := by unfold AllEq at h; exact h
theorem AllEq.mono {α : Type} {o : α} {K K' : α → Prop} (hk : ∀ y, K y → K' y) (h : AllEq o K) : AllEq o K' := by unfold AllEq at h ⊢; exact hk _ h
theorem Q.eta (a : Q) : (⟨a.p, a.q⟩ : Q) = a := rfl
theorem Sn.eta (a : Sn) : (⟨a.lo, a.hi⟩ : Sn) = a := rfl
theorem SlV.eta (a : SlV) : (⟨a.a, a.n, a.c⟩ : SlV) = a := rfl
def Sp.rq {α γ δ : Type} (A : ArgL α) (R : α → γ → Ext → Prop) (en : δ → Value) (out : α → γ → δ) : Sp where
  f bs m E K := match plains bs with
    | some vs => match A.dec vs with
      | some x => ∃ l : γ, Side (R x l E) ∧ AllEq (out x l) fun y => K (.v (en y)) m E
      | none => False
    | none => False
  mono := by
    intro bs m E K K' hk h
    split at h
    · split at h
      · obtain ⟨l, h1, h2⟩ := h; exact ⟨l, h1, h2.mono fun _ h => hk _ _ _ h⟩
      · cases h
    · cases h
def Sp.pq {α δ : Type} (A : ArgL α) (pre : α → Prop) (en : δ → Value) (out : α → δ) : Sp where
  f bs m E K := match plains bs with
    | some vs => match A.dec vs with
      | some x => Side (pre x) ∧ AllEq (out x) fun y => K (.v (en y)) m E
      | none => False
    | none => False
  mono := by
    intro bs m E K K' hk h
    split at h
    · split at h
      · exact ⟨h.1, h.2.mono fun _ h => hk _ _ _ h⟩
      · cases h
    · cases h
def Sp.sq {σ α δ : Type} (S : ArgL σ) (t : TypeId) (A : ArgL α) (pre : σ → α → Prop) (en : δ → Value) (out : σ → α → δ) (nxt : σ → α → σ) : Sp where
  f bs m E K := match bs with
    | .p i 0 :: r => match plains r, m[i]? with
      | some vs, some b => match Nat.beq b.2 t, S.dec b.1, A.dec vs with
        | true, some s, some x => Side (pre s x) ∧ AllEq (out s x) fun y => AllEq (nxt s x) fun s' => K (.v (en y)) (m.set i (S.enc s', t)) E
        | _, _, _ => False
      | _, _ => False
    | _ => False
  mono := by
    intro bs m E K K' hk h
    split at h
    · split at h
      · split at h
        · exact ⟨h.1, h.2.mono fun _ h => h.mono fun _ h => hk _ _ _ h⟩
        · cases h
      · cases h
    · cases h
def Sp.gq {σ α γ δ : Type} (S : ArgL σ) (t : TypeId) (A : ArgL α) (R : σ → α → γ → Ext → Prop) (en : δ → Value) (out : σ → α → γ → δ) (nxt : σ → α → γ → σ) : Sp where
  f bs m E K := match bs with
    | .p i 0 :: r => match plains r, m[i]? with
      | some vs, some b => match Nat.beq b.2 t, S.dec b.1, A.dec vs with
        | true, some s, some x => ∃ l : γ, Side (R s x l E) ∧ AllEq (out s x l) fun y => AllEq (nxt s x l) fun s' => K (.v (en y)) (m.set i (S.enc s', t)) E
        | _, _, _ => False
      | _, _ => False
    | _ => False
  mono := by
    intro bs m E K K' hk h
    split at h
    · split at h
      · split at h
        · obtain ⟨l, h1, h2⟩ := h; exact ⟨l, h1, h2.mono fun _ h => h.mono fun _ h => hk _ _ _ h⟩
        · cases h
      · cases h
    · cases h
def Sp.hq {σ α γ δ : Type} (S : ArgL σ) (t : TypeId) (A : ArgL α) (R : σ → α → γ → Ext → Prop) (en : δ → Value) (out : σ → α → γ → δ) : Sp where
  f bs m E K := match bs with
    | .p i 0 :: r => match plains r, m[i]? with
      | some vs, some b => match Nat.beq b.2 t, S.dec b.1, A.dec vs with
        | true, some s, some x => ∃ l : γ, Side (R s x l E) ∧ AllEq (out s x l) fun y => K (.v (en y)) m E
        | _, _, _ => False
      | _, _ => False
    | _ => False
  mono := by
    intro bs m E K K' hk h
    split at h
    · split at h
      · split at h
        · obtain ⟨l, h1, h2⟩ := h; exact ⟨l, h1, h2.mono fun _ h => hk _ _ _ h⟩
        · cases h
      · cases h
    · cases h
def Sp.hq2 {σ τ α γ δ : Type} (S : ArgL σ) (t : TypeId) (S' : ArgL τ) (t' : TypeId) (A : ArgL α) (R : σ → τ → α → γ → Ext → Prop) (en : δ → Value) (out : σ → τ → α → γ → δ) : Sp where
  f bs m E K := match bs with
    | .p i 0 :: .p j 0 :: r => match Nat.beq i j, plains r, m[i]?, m[j]? with
      | false, some vs, some b, some c => match Nat.beq b.2 t, S.dec b.1, Nat.beq c.2 t', S'.dec c.1, A.dec vs with
        | true, some s, true, some s', some x => ∃ l : γ, Side (R s s' x l E) ∧ AllEq (out s s' x l) fun y => K (.v (en y)) m E
        | _, _, _, _, _ => False
      | _, _, _, _ => False
    | _ => False
  mono := by
    intro bs m E K K' hk h
    split at h
    · split at h
      · split at h
        · obtain ⟨l, h1, h2⟩ := h; exact ⟨l, h1, h2.mono fun _ h => hk _ _ _ h⟩
        · cases h
      · cases h
    · cases h
section
variable {P : Program} {f : FuncId}
theorem Sp.rq_ok {α γ δ : Type} {A : ArgL α} {R : α → γ → Ext → Prop} {en : δ → Value} {out : α → γ → δ} (ok : Sp.ok P f (Sp.rf A R fun x l => en (out x l))) : Sp.ok P f (Sp.rq A R en out) := by
  intro bs m E K hk
  refine ok bs m E K ?_
  simp only [Sp.rq] at hk
  simp only [Sp.rf]
  split at hk
  · split at hk
    · obtain ⟨l, h1, h2⟩ := hk; exact ⟨l, h1, h2.out⟩
    · cases hk
  · cases hk
theorem Sp.pq_ok {α δ : Type} {A : ArgL α} {pre : α → Prop} {en : δ → Value} {out : α → δ} (ok : Sp.ok P f (Sp.pf A pre fun x => en (out x))) : Sp.ok P f (Sp.pq A pre en out) := by
  intro bs m E K hk
  refine ok bs m E K ?_
  simp only [Sp.pq] at hk
  simp only [Sp.pf]
  split at hk
  · split at hk
    · exact ⟨hk.1, hk.2.out⟩
    · cases hk
  · cases hk
theorem Sp.sq_ok {σ α δ : Type} {S : ArgL σ} {t : TypeId} {A : ArgL α} {pre : σ → α → Prop} {en : δ → Value} {out : σ → α → δ} {nxt : σ → α → σ} (ok : Sp.ok P f (Sp.sf S t A pre (fun s x => en (out s x)) nxt)) : Sp.ok P f (Sp.sq S t A pre en out nxt) := by
  intro bs m E K hk
  refine ok bs m E K ?_
  simp only [Sp.sq] at hk
  simp only [Sp.sf]
  split at hk
  · split at hk
    · split at hk
      · exact ⟨hk.1, hk.2.out.out⟩
      · cases hk
    · cases hk
  · cases hk
theorem Sp.gq_ok {σ α γ δ : Type} {S : ArgL σ} {t : TypeId} {A : ArgL α} {R : σ → α → γ → Ext → Prop} {en : δ → Value} {out : σ → α → γ → δ} {nxt : σ → α → γ → σ} (ok : Sp.ok P f (Sp.gf S t A R (fun s x l => en (out s x l)) nxt)) : Sp.ok P f (Sp.gq S t A R en out nxt) := by
  intro bs m E K hk
  refine ok bs m E K ?_
  simp only [Sp.gq] at hk
  simp only [Sp.gf]
  split at hk
  · split at hk
    · split at hk
      · obtain ⟨l, h1, h2⟩ := hk; exact ⟨l, h1, h2.out.out⟩
      · cases hk
    · cases hk
  · cases hk
theorem Sp.hq_ok {σ α γ δ : Type} {S : ArgL σ} {t : TypeId} {A : ArgL α} {R : σ → α → γ → Ext → Prop} {en : δ → Value} {out : σ → α → γ → δ} (ok : Sp.ok P f (Sp.hf S t A R (fun s x l => en (out s x l)))) : Sp.ok P f (Sp.hq S t A R en out) := by
  intro bs m E K hk
  refine ok bs m E K ?_
  simp only [Sp.hq] at hk
  simp only [Sp.hf]
  split at hk
  · split at hk
    · split at hk
      · obtain ⟨l, h1, h2⟩ := hk; exact ⟨l, h1, h2.out⟩
      · cases hk
    · cases hk
  · cases hk
theorem Sp.hq2_ok {σ τ α γ δ : Type} {S : ArgL σ} {t : TypeId} {S' : ArgL τ} {t' : TypeId} {A : ArgL α} {R : σ → τ → α → γ → Ext → Prop} {en : δ → Value} {out : σ → τ → α → γ → δ} (ok : Sp.ok P f (Sp.hf2 S t S' t' A R (fun s s' x l => en (out s s' x l)))) : Sp.ok P f (Sp.hq2 S t S' t' A R en out) := by
  intro bs m E K hk
  refine ok bs m E K ?_
  simp only [Sp.hq2] at hk
  simp only [Sp.hf2]
  split at hk
  · split at hk
    · split at hk
      · obtain ⟨l, h1, h2⟩ := hk; exact ⟨l, h1, h2.out⟩
      · cases hk
    · cases hk
  · cases hk
end
end Go.Proofs.Ytjibkphhlflpeaa.Ab

namespace Go.Proofs.Ytjibkphhlflpeaa.Ab
open Go.ChangeShapes Go.WideShapes Go.RowKit Go.Deep
/-! ### rows -/
section
variable {H : Type} {enc : TypeId × Value → H} {P : Program}

theorem holds_none (h : GT = []) {W : World} {β : List Nat} {E : Ext} : Holds W β E := fun x hx => by rw [h] at hx; cases hx
/-- What is called without any memory of its own leaves what was there. -/
theorem Sp.calls {f : FuncId} {α γ : Type} {A : ArgL α} {R : α → γ → Ext → Prop} {res : α → γ → Value} (hok : Sp.ok P f (Sp.rf A R res)) {x : α} {vs : List Value} (hd : A.dec vs = some x) {l : γ} {W : World} {args : Array Value} (ha : args = vs.toArray)
    (hR : R x l ⟨fun a => W.cell? a, fun _ => none⟩) (hG : Holds W [] ⟨fun a => W.cell? a, fun _ => none⟩ := by exact holds_none rfl) : Calls P f args W fun e W' => e = .returned (res x l) ∧ Below W.heap.size W W' := by
  subst ha
  have hpl : ∀ us : List Value, plains (us.map AV.v) = some us := by
    intro us
    induction us with
    | nil => rfl
    | cons u r ih => simp [plains, ih]
  refine (hok (vs.map AV.v) [] ⟨fun a => W.cell? a, fun _ => none⟩ (fun r _ _ => r = .v (res x l)) ?_ W [] vs.toArray ?_ (by simp) ?_).mono ?_
  · simp only [Sp.rf, hpl, hd]
    exact ⟨l, Side.mk hR, rfl⟩
  · exact ⟨fun _ _ _ h => h, rfl, rfl, ⟨rfl, dLe_refl _⟩, Nat.le_refl _, fun _ _ _ _ => rfl, ⟨[], rfl, by simp⟩, by simp, rfl, fun i b c hi => by simp at hi, fun a v ha => ⟨ha, by simp⟩, fun a v ha => cell_lt ha, fun a v ha _ _ => ha, fun b p hb => (by cases hb), hG⟩
  · intro i a hi
    rw [List.getElem?_map] at hi
    cases hu : vs[i]? with
    | none => rw [hu] at hi; cases hi
    | some u =>
      rw [hu] at hi
      cases hi
      exact ⟨u, by simpa using hu, rfl⟩
  · intro e W' ⟨r, m', E', β', y, he, hc, hr, hk⟩
    subst hk
    subst he
    exact ⟨congrArg Ending.returned hc, hr.os, hr.tape, hr.output.1, hr.size, fun k hk => hr.old k hk (by simp) rfl⟩
theorem Sp.rf_of_pf {f : FuncId} {α : Type} {A : ArgL α} {pre : α → Prop} {res : α → Value} (hok : Sp.ok P f (Sp.pf A pre res)) : Sp.ok P f (Sp.rf A (fun x (_ : Unit) _ => pre x) (fun x _ => res x)) := by
  intro bs m E K hk
  refine hok bs m E K ?_
  simp only [Sp.rf] at hk
  simp only [Sp.pf]
  split at hk
  · split at hk
    · exact ⟨hk.choose_spec.1, hk.choose_spec.2⟩
    · cases hk
  · cases hk

/-- Arguments that are only read read as they did. -/
theorem args_stay (hl : laidOutB P = true) {W W' : World} (hb : Below W.heap.size W W') : ∀ {ts : List TypeId} {vs : List Value} {ds : List (DataW H)} {ps : List MemPlace}, (ts.all fun t => P.readableRec t && decide (t < P.types.size)) = true →
    DataW.TrodAll enc P W 0 (fun _ => true) true ts vs ds ps → (∀ x ∈ ps, x.block < W.heap.size) → DataW.TrodAll enc P W' 0 (fun b => decide (b < W.heap.size)) true ts vs ds ps
  | [], vs, ds, ps, _, h, _ => by
    obtain ⟨rfl, rfl, rfl⟩ := trodAll_nil h
    exact trodAll_mk0
  | t :: ts, vs, ds, ps, ht, h, hp => by
    obtain ⟨v, vs', d, ds', p, q, rfl, rfl, rfl, hd, hr⟩ := trodAll_cons h
    rw [List.all_cons, Bool.and_eq_true, Bool.and_eq_true] at ht
    exact trodAll_cons_mk (Below.trod hl ht.1.1 (of_decide_eq_true ht.1.2) hd hb (fun x hx => hp x (List.mem_append_left _ hx))) (args_stay hl hb ht.2 hr (fun x hx => hp x (List.mem_append_right _ hx)))

/-- The one-cell types that a type's cells have. -/
def leaves (P : Program) : Nat → TypeId → List TypeId
  | 0, t => [t]
  | n + 1, t => match P.underlying t with
    | some (.struct fs) => fs.toList.flatMap fun f => leaves P n f.type
    | _ => [t]
def fieldsB (P : Program) (ok : TypeId → Bool) (lv : TypeId → List TypeId) : Nat → List Field → Option Nat
  | o, [] => some o
  | o, f :: r => if f.offset = o ∧ ok f.type = true ∧ P.cellsOf f.type = (lv f.type).length then fieldsB P ok lv (o + P.cellsOf f.type) r else none
def leavesB (P : Program) : Nat → TypeId → Bool
  | 0, _ => false
  | n + 1, t => match P.underlying t with
    | some (.struct fs) => fieldsB P (leavesB P n) (leaves P n) 0 fs.toList == some (P.cellsOf t)
    | some (.int _) | some .bool | some .string | some (.slice _) => true
    | _ => false
def LeafAt (enc : TypeId × Value → H) (P : Program) (w : World) (base : Nat) (spare : Nat → Bool) (held : Bool) (t : TypeId) (v : Value) : Prop :=
  ∃ n x, DataW.trod enc P w base spare held n t [v] = some x
def Each (R : TypeId → Value → Prop) : List TypeId → List Value → Prop
  | [], [] => True
  | t :: ts, v :: vs => R t v ∧ Each R ts vs
  | _, _ => False
theorem Each.append {R : TypeId → Value → Prop} : ∀ {ts : List TypeId} {vs : List Value} {ts' : List TypeId} {vs' : List Value}, Each R ts vs → Each R ts' vs' → Each R (ts ++ ts') (vs ++ vs')
  | [], [], _, _, _, h => h
  | _ :: _, _ :: _, _, _, h, k => ⟨h.1, Each.append h.2 k⟩
  | [], _ :: _, _, _, h, _ => h.elim
  | _ :: _, [], _, _, h, _ => h.elim
theorem fieldsB_le {ok : TypeId → Bool} {lv : TypeId → List TypeId} : ∀ {l : List Field} {o e : Nat}, fieldsB P ok lv o l = some e → o ≤ e
  | [], o, e, h => by simp only [fieldsB, Option.some.injEq] at h; omega
  | f :: r, o, e, h => by
    unfold fieldsB at h
    split at h
    · have := fieldsB_le h; omega
    · cases h
theorem leaves_of {w : World} {base : Nat} {spare : Nat → Bool} {held : Bool} : ∀ (n : Nat) {t : TypeId} {cs : List Value} {fuel : Nat} {x : DataW H × List MemPlace}, leavesB P n t = true → DataW.trod enc P w base spare held fuel t cs = some x →
    Each (LeafAt enc P w base spare held) (leaves P n t) cs
  | 0, t, cs, fuel, x, hb, h => by cases hb
  | n + 1, t, cs, fuel, x, hb, h => by
    unfold leavesB at hb
    have one : ∀ v, cs = [v] → (leaves P (n + 1) t = [t]) → Each (LeafAt enc P w base spare held) (leaves P (n + 1) t) cs := by
      intro v hc hl
      rw [hl, hc]
      rw [hc] at h
      exact ⟨⟨fuel, x, h⟩, trivial⟩
    split at hb
    · rename_i fs hs
      obtain ⟨xs, m, rfl, hx, hlen, hxl, hf⟩ := DataW.trod_struct hs h
      have hl : leaves P (n + 1) t = fs.toList.flatMap fun f => leaves P n f.type := by
        conv => lhs; unfold leaves
        rw [hs]
      rw [hl]
      have hb := eq_of_beq hb
      rw [← hlen] at hb
      have key : ∀ (l : List Field) (j o : Nat), (∀ i f, l[i]? = some f → fs[j + i]? = some f) → fieldsB P (leavesB P n) (leaves P n) o l = some cs.length → j + l.length ≤ xs.length →
          Each (LeafAt enc P w base spare held) (l.flatMap fun f => leaves P n f.type) (cs.drop o) := by
        intro l
        induction l with
        | nil =>
          intro j o hi he _
          simp only [fieldsB, Option.some.injEq] at he
          subst he
          simp [Each]
        | cons f r ih =>
          intro j o hi he hj
          have he' := he
          unfold fieldsB at he
          split at he
          · rename_i hc
            obtain ⟨ho, hok, hcl⟩ := hc
            have hle := fieldsB_le he
            have h1 := hf j f (hi 0 f rfl)
            rw [ho] at h1
            have hxj : xs[j]? = some (xs[j]'(by simp at hj; omega)) := List.getElem?_eq_getElem _
            rw [hxj] at h1
            have h2 := leaves_of n hok h1
            have h3 := ih (j + 1) (o + P.cellsOf f.type) (fun i g hg => by have := hi (i + 1) g hg; rw [← this]; congr 1; omega) he (by simp at hj; omega)
            rw [List.flatMap_cons]
            have h4 : cs.drop o = (cs.drop o).take (P.cellsOf f.type) ++ cs.drop (o + P.cellsOf f.type) := by
              rw [← List.drop_drop, List.take_append_drop]
            rw [h4]
            exact h2.append h3
          · cases he
      exact key fs.toList 0 0 (fun i f hf => by simpa using hf) hb (by simp [hxl])
    · rename_i k hk
      obtain ⟨i, hc, _⟩ := DataW.trod_int hk h
      exact one _ hc (by simp [leaves, hk])
    · rename_i hk
      obtain ⟨i, hc, _⟩ := DataW.trod_bool hk h
      exact one _ hc (by simp [leaves, hk])
    · rename_i hk
      obtain ⟨i, hc, _⟩ := DataW.trod_string hk h
      exact one _ hc (by simp [leaves, hk])
    · rename_i e hk
      rcases DataW.trod_slice hk h with ⟨hc, _⟩ | ⟨a, len, cap, elems, rest, m, _, hc, _⟩
      · exact one _ hc (by simp [leaves, hk])
      · exact one _ hc (by simp [leaves, hk])
    · cases hb

theorem leaf_int {w : World} {base : Nat} {spare : Nat → Bool} {held : Bool} {t : TypeId} {v : Value} {k : IntKind} (ht : P.underlying t = some (.int k)) (h : LeafAt enc P w base spare held t v) : ∃ n, v = .int k n ∧ (Lit.int k n).wf = true := by
  obtain ⟨n, x, h⟩ := h
  obtain ⟨m, h1, _, h2⟩ := DataW.trod_int ht h
  exact ⟨m, by simpa using h1, h2⟩
theorem leaf_bool {w : World} {base : Nat} {spare : Nat → Bool} {held : Bool} {t : TypeId} {v : Value} (ht : P.underlying t = some .bool) (h : LeafAt enc P w base spare held t v) : ∃ n, v = .bool n := by
  obtain ⟨n, x, h⟩ := h
  obtain ⟨m, h1, _⟩ := DataW.trod_bool ht h
  exact ⟨m, by simpa using h1⟩
theorem leaf_str {w : World} {base : Nat} {spare : Nat → Bool} {held : Bool} {t : TypeId} {v : Value} (ht : P.underlying t = some .string) (h : LeafAt enc P w base spare held t v) : ∃ n, v = .string n ∧ n.size ≤ maxLen := by
  obtain ⟨n, x, h⟩ := h
  obtain ⟨m, h1, _, h2⟩ := DataW.trod_string ht h
  exact ⟨m, by simpa using h1, h2⟩
/-- What a slice's elements are, by their one-cell parts. -/
def RowOf (R : List Value → Prop) (w : World) (c : Nat) (s : SlV) : Prop :=
  (s.a = none → s.n = 0) ∧ s.n ≤ maxLen ∧ ∀ a, s.a = some a → ∀ i, i < s.n → ∃ vs : List Value, R vs ∧ ∀ j v, vs[j]? = some v → w.cell? (a.add (i * c + j)) = some v
theorem leaf_slice {w : World} {base : Nat} {spare : Nat → Bool} {held : Bool} {t e : TypeId} {v : Value} (n : Nat) (ht : P.underlying t = some (.slice e)) (hb : leavesB P n e = true) (h : LeafAt enc P w base spare held t v) :
    ∃ s : SlV, v = s.v ∧ RowOf (Each (LeafAt enc P w base spare held) (leaves P n e)) w (P.cellsOf e) s := by
  obtain ⟨f, x, h⟩ := h
  rcases open_slice ht h with ⟨h1, _⟩ | ⟨a, len, cap, m, k, D, Pl, hcs, hb', hl, hm, hmm, hx, hi⟩
  · refine ⟨⟨none, 0, 0⟩, by simpa [SlV.v] using h1, fun _ => rfl, Nat.zero_le _, fun a ha => by cases ha⟩
  · refine ⟨⟨some a, len, cap⟩, by simpa [SlV.v] using hcs, (fun h0 => by simp at h0), Nat.le_trans hl hm, fun a' ha i hil => ?_⟩
    obtain rfl := Option.some.inj ha
    obtain ⟨cs, hc, ht'⟩ := hi i (by split at hmm <;> simp at hil <;> omega)
    obtain ⟨_, _, hat⟩ := World.cells?_some hc
    refine ⟨cs, leaves_of n hb ht', fun j v hj => ?_⟩
    have hjl : j < P.cellsOf e := by
      have := (List.getElem?_eq_some_iff.1 hj).1
      obtain ⟨_, h2, _⟩ := World.cells?_some hc
      omega
    rw [← Go.Deep.add_add, hat j hjl, hj]

/-- An argument of a row, opened. -/
def Opens {α : Type} (P : Program) (t : TypeId) (A : Arg α) (wf : α → World → Prop) : Prop :=
  ∀ ⦃H : Type⦄ ⦃enc : TypeId × Value → H⦄ ⦃w : World⦄ ⦃base : Nat⦄ ⦃spare : Nat → Bool⦄ ⦃held : Bool⦄ ⦃r : Reach⦄ ⦃b0 : Nat⦄ ⦃v : Value⦄ ⦃d : DataW H⦄ ⦃p : List MemPlace⦄, Value.okWide P w r b0 t v → DataW.Trod enc P w base spare held t v d p → ∃ x, A.dec v = some x ∧ wf x w
def OpensL {α : Type} (P : Program) (ts : List TypeId) (A : ArgL α) (wf : α → World → Prop) : Prop :=
  ∀ ⦃H : Type⦄ ⦃enc : TypeId × Value → H⦄ ⦃w : World⦄ ⦃base : Nat⦄ ⦃spare : Nat → Bool⦄ ⦃held : Bool⦄ ⦃r : Reach⦄ ⦃b0 : Nat⦄ ⦃vs : List Value⦄ ⦃ds : List (DataW H)⦄ ⦃ps : List MemPlace⦄, (∀ (j : Nat) t v, ts[j]? = some t → vs[j]? = some v → Value.okWide P w r b0 t v) → DataW.TrodAll enc P w base spare held ts vs ds ps → ∃ x, A.dec vs = some x ∧ wf x w
theorem OpensL.nil : OpensL P [] .nil (fun _ _ => True) := by
  intro H enc w base spare held r b0 vs ds ps hv h
  obtain ⟨rfl, rfl, rfl⟩ := trodAll_nil h
  exact ⟨(), rfl, trivial⟩
theorem OpensL.cons {α β : Type} {t : TypeId} {ts : List TypeId} {A : Arg α} {B : ArgL β} {wf : α → World → Prop} {wf' : β → World → Prop} (h : Opens P t A wf) (hs : OpensL P ts B wf') : OpensL P (t :: ts) (.cons A B) (fun x w => wf x.1 w ∧ wf' x.2 w) := by
  intro H enc w base spare held r b0 vs ds ps hv ht
  obtain ⟨v, vs', d, ds', p, q, rfl, rfl, rfl, h0, hr⟩ := trodAll_cons ht
  obtain ⟨x, hx, hw⟩ := h (hv 0 t v rfl rfl) h0
  obtain ⟨y, hy, hw'⟩ := hs (fun j t' v' h1 h2 => hv (j + 1) t' v' h1 h2) hr
  exact ⟨(x, y), by simp [ArgL.cons, hx, hy], hw, hw'⟩
def I64 (n : Int) : Prop := -9223372036854775808 ≤ n ∧ n ≤ 9223372036854775807
theorem i64_of {n : Int} (h : (Lit.int .i64 n).wf = true) : I64 n := by
  simp [Lit.wf, IntKind.min, IntKind.max, IntKind.signed, IntKind.bits] at h
  exact h
theorem Opens.int {t : TypeId} (ht : P.underlying t = some (.int .i64)) : Opens P t .int (fun n _ => I64 n) := by
  intro H enc w base spare held r b0 v d p hv h
  obtain ⟨n, rfl, _, _, hw⟩ := open_int ht hv h
  exact ⟨n, rfl, i64_of hw⟩
theorem Opens.bool {t : TypeId} (ht : P.underlying t = some .bool) : Opens P t .bool (fun _ _ => True) := by
  intro H enc w base spare held r b0 v d p hv h
  obtain ⟨n, rfl, _⟩ := open_bool ht hv h
  exact ⟨n, rfl, trivial⟩
/-- A struct: its cells, each with its reading. -/
theorem open_struct_cells {w : World} {base : Nat} {spare : Nat → Bool} {held : Bool} {r : Reach} {b0 : Nat} {t : TypeId} {fs : Array Field} {v : Value} {d : DataW H} {p : List MemPlace} (n : Nat) (ht : P.underlying t = some (.struct fs)) (hb : leavesB P n t = true) {ts : List TypeId} (hl : leaves P n t = ts) (hv : Value.okWide P w r b0 t v) (h : DataW.Trod enc P w base spare held t v d p) :
    ∃ cs : Array Value, v = .agg cs ∧ Each (LeafAt enc P w base spare held) ts cs.toList := by
  obtain ⟨cs, rfl, hsz⟩ := okWide_struct ht hv
  obtain ⟨f, h⟩ := h
  exact ⟨cs, rfl, hl ▸ leaves_of n hb h⟩
theorem Each.nil {R : TypeId → Value → Prop} {vs : List Value} (h : Each R [] vs) : vs = [] := by
  cases vs with
  | nil => rfl
  | cons v r => exact h.elim
theorem Each.cons {R : TypeId → Value → Prop} {t : TypeId} {ts : List TypeId} {vs : List Value} (h : Each R (t :: ts) vs) : ∃ v r, vs = v :: r ∧ R t v ∧ Each R ts r := by
  cases vs with
  | nil => exact h.elim
  | cons v r => exact ⟨v, r, rfl, h.1, h.2⟩
def QW (a : Q) : Prop := I64 a.p ∧ I64 a.q
theorem each_q {w : World} {base : Nat} {spare : Nat → Bool} {held : Bool} {i : TypeId} {cs : List Value} (hi : P.underlying i = some (.int .i64)) {ts : List TypeId} (h : Each (LeafAt enc P w base spare held) (i :: i :: ts) cs) :
    ∃ (a : Q) (r : List Value), cs = .int .i64 a.p :: .int .i64 a.q :: r ∧ QW a ∧ Each (LeafAt enc P w base spare held) ts r := by
  obtain ⟨v, r, rfl, h1, k1⟩ := h.cons
  obtain ⟨u, r, rfl, h2, k2⟩ := k1.cons
  obtain ⟨p, rfl, hp⟩ := leaf_int hi h1
  obtain ⟨q, rfl, hq⟩ := leaf_int hi h2
  exact ⟨⟨p, q⟩, r, rfl, ⟨i64_of hp, i64_of hq⟩, k2⟩
theorem Opens.frac {t i : TypeId} {fs : Array Field} (ht : P.underlying t = some (.struct fs)) (hb : leavesB P 2 t = true) (hl : leaves P 2 t = [i, i]) (hi : P.underlying i = some (.int .i64)) : Opens P t .frac (fun a _ => QW a) := by
  intro H enc w base spare held r b0 v d p hv h
  obtain ⟨cs, rfl, k0⟩ := open_struct_cells 2 ht hb hl hv h
  obtain ⟨a, r, hc, ha, k1⟩ := each_q hi k0
  obtain rfl := k1.nil
  exact ⟨a, by simp [Arg.frac, qDec, hc], ha⟩
theorem Opens.span {t i : TypeId} {fs : Array Field} (ht : P.underlying t = some (.struct fs)) (hb : leavesB P 3 t = true) (hl : leaves P 3 t = [i, i, i, i]) (hi : P.underlying i = some (.int .i64)) : Opens P t .span (fun a _ => QW a.lo ∧ QW a.hi) := by
  intro H enc w base spare held r b0 v d p hv h
  obtain ⟨cs, rfl, k0⟩ := open_struct_cells 3 ht hb hl hv h
  obtain ⟨a, r, hc, ha, k1⟩ := each_q hi k0
  obtain ⟨b, r, rfl, hb, k2⟩ := each_q hi k1
  obtain rfl := k2.nil
  exact ⟨⟨a, b⟩, by simp [Arg.span, snDec, hc], ha, hb⟩
abbrev VL : ArgL (Int × Bool × Unit) := .cons .int (.cons .bool .nil)
theorem Opens.vern {t i b : TypeId} {fs : Array Field} (ht : P.underlying t = some (.struct fs)) (hb : leavesB P 2 t = true) (hl : leaves P 2 t = [i, b]) (hi : P.underlying i = some (.int .i64)) (hbo : P.underlying b = some .bool) : Opens P t (.agg VL) (fun a _ => I64 a.1) := by
  intro H enc w base spare held r b0 v d p hv h
  obtain ⟨cs, rfl, k0⟩ := open_struct_cells 2 ht hb hl hv h
  obtain ⟨v, r, e, h1, k1⟩ := k0.cons
  obtain ⟨u, r, rfl, h2, k2⟩ := k1.cons
  obtain rfl := k2.nil
  obtain ⟨p, rfl, hp⟩ := leaf_int hi h1
  obtain ⟨q, rfl⟩ := leaf_bool hbo h2
  exact ⟨(p, q, ()), by simp [Arg.agg, VL, ArgL.cons, ArgL.nil, Arg.int, Arg.bool, e], i64_of hp⟩
end
end Go.Proofs.Ytjibkphhlflpeaa.Ab
