/-
  The evaluator: the model's code reckoned over an abstract heap, in continuation style: the result is a proposition. Plain Lean over the model; no program in sight.
-/
import Derived.Test.YtamkkkkonigglaaGreatDoorPeA
namespace Go.Pe
open Go Go.RowKit

structure St where
  tmps : List (Nat × Value)
  heap : Heap
  next : Nat
  mw : Nat
  size : Nat
  fn : FuncId
  df : List (FuncId × List Value) := []

structure Env where
  P : Program
  isBool : TypeId → Bool
  oracle : FuncId → List Value → Heap → Nat → Option ((Value → Heap → Nat → Nat → Prop) → Prop)
  eqAgg : TypeId → List Value → List Value → Option Bool
  loops : Nat
  loopP : FuncId → Nat → Option (Code → St → (Exit → St → Prop) → Prop)
  guess : FuncId → Nat → Option Bool
  strF : List (Option Value) → Nat → ByteArray
  lax : Bool := false
  wild : FuncId → Nat → Bool := fun _ _ => false
  sure : FuncId → Bool := fun _ => false
  low : Nat := P.globals.size
  weak : Bool := false

/-- A slot's value: the latest one put there (told by recursors, which the kernel takes quickly). -/
noncomputable def getTmp (l : List (Nat × Value)) (n : Nat) : Value := List.rec undef (fun p _ ih => Bool.rec ih p.2 (Nat.beq p.1 n)) l

theorem getTmp_nil (n : Nat) : getTmp [] n = undef := rfl
theorem getTmp_cons (k : Nat) (v : Value) (l : List (Nat × Value)) (n : Nat) : getTmp ((k, v) :: l) n = match Nat.beq k n with | true => v | false => getTmp l n := by
  show (Bool.rec (getTmp l n) v (Nat.beq k n) : Value) = _
  cases Nat.beq k n <;> rfl

/-- Does a slot stand in the list? -/
noncomputable def told (l : List (Nat × Value)) (n : Nat) : Bool := List.rec false (fun p _ ih => Bool.rec ih true (Nat.beq p.1 n)) l
theorem told_cons (k : Nat) (v : Value) (l : List (Nat × Value)) (n : Nat) : told ((k, v) :: l) n = match Nat.beq k n with | true => true | false => told l n := by
  show (Bool.rec (told l n) true (Nat.beq k n) : Bool) = _
  cases Nat.beq k n <;> rfl

/-- An operand's value, by itself. -/
structure OpdFn where
  run : List (Nat × Value) → Value

noncomputable def opdF : Operand → OpdFn
  | .tmp t => ⟨fun tmps => getTmp tmps t⟩
  | .const v => ⟨fun _ => v⟩
  | .global g => ⟨fun _ => .pointer (some ⟨g, 0, none⟩)⟩
  | .func f => ⟨fun _ => .func (.func f) #[] #[]⟩

noncomputable def evalO (tmps : List (Nat × Value)) (x : Operand) : Value := (opdF x).run tmps

def und (E : Env) (t : TypeId) : Option TypeDesc := E.P.underlying t

def sizeT (E : Env) (t : TypeId) : Option Nat :=
  match E.P.info? t with
  | some i => some i.size
  | none => none

def zeroT (E : Env) (t : TypeId) : Option Value :=
  match Nat.blt t E.P.types.size with
  | true => (match E.P.info? t with
    | some i => i.zero
    | none => none)
  | false => none

def isAggT (E : Env) (t : TypeId) : Option Bool :=
  match und E t with
  | some (.struct _) => some true
  | some (.array _ _) => some true
  | some _ => some false
  | none => none

def takeN : List (Option Value) → Nat → Option (List Value)
  | _, 0 => some []
  | some v :: l, n + 1 => match takeN l n with
    | some r => some (v :: r)
    | none => none
  | _, _ + 1 => none

/-- n cells from an address on. -/
def cellsAt (h : Heap) (a : Addr) (n : Nat) : Option (List Value) :=
  match a.spot with
  | some _ => none
  | none => match getBlk h a.block with
    | some b => match b.iter with
      | none => takeN (b.cells.drop a.off) n
      | some _ => none
    | none => none

/-- Cells written from a place on; none, if there are not so many. -/
def putCells (l : List (Option Value)) (n : Nat) (vs : List Value) : Option (List (Option Value)) :=
  match Nat.ble (n + vs.length) l.length with
  | true => some (l.take n ++ vs.map some ++ l.drop (n + vs.length))
  | false => none

def listEq : List UInt8 → List UInt8 → Bool
  | [], [] => true
  | a :: x, b :: y => match Nat.beq a.toNat b.toNat with | true => listEq x y | false => false
  | _, _ => false

def listLess : List UInt8 → List UInt8 → Bool
  | _, [] => false
  | [], _ :: _ => true
  | a :: x, b :: y => match Nat.blt a.toNat b.toNat with
    | true => true
    | false => match Nat.beq a.toNat b.toNat with
      | true => listLess x y
      | false => false

def strEq (a b : ByteArray) : Bool := listEq a.data.toList b.data.toList
def strLess (a b : ByteArray) : Bool := listLess a.data.toList b.data.toList
def strCat (a b : ByteArray) : ByteArray := ⟨⟨a.data.toList ++ b.data.toList⟩⟩
def strCut (a : ByteArray) (l h : Nat) : ByteArray := ⟨⟨(a.data.toList.drop l).take (h - l)⟩⟩
def strLen (a : ByteArray) : Nat := a.data.toList.length

/-- A check that must come out true. -/
noncomputable def chk (b : Bool) (p : Prop) : Prop := Bool.rec (motive := fun _ => Prop) False p b

/-- What two integers come to, by itself. -/
structure IntFn where
  run : IntKind → Int → Int → (Value → Prop) → Prop

noncomputable def intsF (op : BinOp) : IntFn :=
  match op with
  | .add => ⟨fun k a b K => K (.int k (k.wrap (a + b)))⟩
  | .sub => ⟨fun k a b K => K (.int k (k.wrap (a - b)))⟩
  | .mul => ⟨fun k a b K => K (.int k (k.wrap (a * b)))⟩
  | .quo => ⟨fun k a b K => chk (!(b == 0)) (K (.int k (k.wrap (a.tdiv b))))⟩
  | .rem => ⟨fun k a b K => chk (!(b == 0)) (K (.int k (a.tmod b)))⟩
  | .and => ⟨fun k a b K => K (.int k (k.wrap (BitVec.ofInt k.bits a &&& BitVec.ofInt k.bits b).toNat))⟩
  | .or => ⟨fun k a b K => K (.int k (k.wrap (BitVec.ofInt k.bits a ||| BitVec.ofInt k.bits b).toNat))⟩
  | .xor => ⟨fun k a b K => K (.int k (k.wrap (BitVec.ofInt k.bits a ^^^ BitVec.ofInt k.bits b).toNat))⟩
  | .andNot => ⟨fun k a b K => K (.int k (k.wrap (BitVec.ofInt k.bits a &&& ~~~BitVec.ofInt k.bits b).toNat))⟩
  | .eql => ⟨fun _ a b K => K (.bool (a == b))⟩
  | .neq => ⟨fun _ a b K => K (.bool (a != b))⟩
  | .lss => ⟨fun _ a b K => K (.bool (decide (a < b)))⟩
  | .leq => ⟨fun _ a b K => K (.bool (decide (a ≤ b)))⟩
  | .gtr => ⟨fun _ a b K => K (.bool (decide (a > b)))⟩
  | .geq => ⟨fun _ a b K => K (.bool (decide (a ≥ b)))⟩
  | _ => ⟨fun _ _ _ _ => False⟩

noncomputable def intsK (op : BinOp) (k : IntKind) (a b : Int) (K : Value → Prop) : Prop := (intsF op).run k a b K

def strsK (op : BinOp) (a b : ByteArray) (K : Value → Prop) : Prop :=
  match op with
  | .add => chk (Nat.ble (strLen a + strLen b) 9223372036854775807) (K (.string (strCat a b)))
  | .eql => K (.bool (strEq a b))
  | .neq => K (.bool !(strEq a b))
  | .lss => K (.bool (strLess a b))
  | .leq => K (.bool (strLess a b || strEq a b))
  | .gtr => K (.bool !(strLess a b || strEq a b))
  | .geq => K (.bool !(strLess a b))
  | _ => False

def addrEq (a b : Addr) : Bool := Nat.beq a.block b.block && Nat.beq a.off b.off && a.spot.isNone && b.spot.isNone

/-- x == y; what may be asked: bools; against nil; one and the same pointer. -/
def equalO (E : Env) (t : TypeId) (x y : Value) : Option Bool :=
  match und E t, x, y with
  | some .bool, .bool a, .bool b => some (a == b)
  | some (.interface _), .nilIface, .iface _ _ => some false
  | some (.interface _), .iface _ _, .nilIface => some false
  | some (.pointer _), .pointer none, .pointer b => some b.isNone
  | some (.pointer _), .pointer (some _), .pointer none => some false
  | some (.pointer e), .pointer (some a), .pointer (some b) => match addrEq a b, sizeT E e with
    | true, some (_ + 1) => some true
    | _, _ => none
  | some (.slice _), .slice none _ _, .slice none _ _ => some true
  | some (.slice _), .slice none _ _, .slice (some _) _ _ => some false
  | some (.slice _), .slice (some _) _ _, .slice none _ _ => some false
  | some (.func _ _ _), .nilFunc, .nilFunc => some true
  | some (.func _ _ _), .nilFunc, .func _ _ _ => some false
  | some (.func _ _ _), .func _ _ _, .nilFunc => some false
  | some (.interface _), .iface u (.int k a), .iface u' (.int k' b) => (match Nat.beq u u', decide (k = k') with
    | true, true => (match E.P.info? u, und E u with
      | some i, some (.int _) => (match i.comparable with | true => some (a == b) | false => none)
      | _, _ => none)
    | _, _ => none)
  | _, _, _ => none

def isConst : Operand → Bool
  | .const _ => true
  | _ => false

def binK (E : Env) (op : BinOp) (t : TypeId) (xo yo : Operand) (x y : Value) (K : Value → Prop) : Prop :=
  match op with
  | .shl => match x, y with
    | .int k a, .int _ b => chk (decide (0 ≤ b)) (K (.int k (k.wrap (a * 2 ^ (min b.toNat k.bits)))))
    | _, _ => False
  | .shr => match x, y with
    | .int k a, .int _ b => chk (decide (0 ≤ b)) (K (.int k (a.fdiv (2 ^ (min b.toNat k.bits)))))
    | _, _ => False
  | op => match x, y with
    | .int k a, .int k' b => chk (decide (k = k')) (intsK op k a b K)
    | .string a, .string b => strsK op a b K
    | .agg a, .agg b => match op, E.eqAgg t a.toList b.toList with
      | .eql, some r => K (.bool r)
      | .neq, some r => K (.bool !r)
      | _, _ => False
    | .nilIface, .nilIface => match und E t with
      | some (.interface _) => (match op with
        | .eql => chk (isConst xo || isConst yo) (K (.bool true))
        | .neq => chk (isConst xo || isConst yo) (K (.bool false))
        | _ => False)
      | _ => False
    | x, y => match op, equalO E t x y with
      | .eql, some r => K (.bool r)
      | .neq, some r => K (.bool !r)
      | _, _ => False

def unK (op : UnOp) (x : Value) (K : Value → Prop) : Prop :=
  match op, x with
  | .neg, .int k n => K (.int k (k.wrap (0 - n)))
  | .not, .bool b => K (.bool !b)
  | _, _ => False

def mkBlk (cs : List Value) (e : TypeId) : Blk := { cells := cs.map some, elem := e, own := true, room := 0, iter := none }

/-- A part of an aggregate: n cells from a place on, of a type. -/
def partO (E : Env) (t : TypeId) (cs : Array Value) (off : Nat) : Option Value :=
  match isAggT E t with
  | some true => match sizeT E t with
    | some s => some (.agg (cs.extract off (off + s)))
    | none => none
  | some false => cs[off]?
  | none => none

def repeatL (z : List Value) : Nat → List Value
  | 0 => []
  | n + 1 => z ++ repeatL z n

/-! ### One operation -/

def loadO (E : Env) (h : Heap) (t : TypeId) (a : Addr) : Option Value :=
  match isAggT E t with
  | some true => match sizeT E t with
    | some s => match cellsAt h a s with
      | some cs => some (.agg cs.toArray)
      | none => none
    | none => none
  | some false => match cellsAt h a 1 with
    | some [v] => some v
    | _ => none
  | none => none

def byteAt (l : List UInt8) (i : Nat) : UInt8 := match nth l i with | some b => b | none => 0

def allStr : List (Option Value) → Bool
  | [] => true
  | c :: l => match c with
    | some v => (match v with | .string _ => allStr l | _ => false)
    | none => false

def allInt (k : IntKind) : List (Option Value) → Bool
  | [] => true
  | c :: l => match c with
    | some v => (match v with | .int k' _ => (match decide (k' = k) with | true => allInt k l | false => false) | _ => false)
    | none => false

def strOf : Option (Option Value) → ByteArray
  | some c => (match c with
    | some v => (match v with | .string s => s | _ => ⟨#[]⟩)
    | none => ⟨#[]⟩)
  | none => ⟨#[]⟩

def intOf : Option (Option Value) → Int
  | some c => (match c with
    | some v => (match v with | .int _ n => n | _ => 0)
    | none => 0)
  | none => 0

def strAt (l : List (Option Value)) (i : Nat) : ByteArray := strOf (nth l i)
def intAt (l : List (Option Value)) (i : Nat) : Int := intOf (nth l i)

/-- An address some cells further on, whatever the number is. -/
def addO (a : Addr) (n : Nat) : Addr := match a.spot with | none => ⟨a.block, a.off + n, none⟩ | some _ => a.add n

/-- The cells of a block of two cells or more. -/
def manyO (h : Heap) (ad : Addr) : Option (List (Option Value)) :=
  match ad.spot with
  | some _ => none
  | none => match getBlk h ad.block with
    | none => none
    | some b => match b.iter with
      | some _ => none
      | none => match b.cells with
        | [] => none
        | c :: l => match l with
          | [] => none
          | d :: r => some (c :: d :: r)

/-- A block that may not be written. -/
def fixedO (h : Heap) (ad : Addr) : Bool :=
  match getBlk h ad.block with
  | some b => !b.own
  | none => false

def ofBytes (l : List UInt8) : List Value := l.map fun b => .int .u8 b.toNat

def loadK0 (E : Env) (h : Heap) (t : TypeId) (ad : Addr) (K : Value → Prop) : Prop :=
  match manyO h ad with
  | some cells => (match und E t with
    | some .string => (match allStr cells with
      | true => chk (Nat.blt ad.off cells.length) (K (.string (E.strF cells ad.off)))
      | false => (match loadO E h t ad with | some v => K v | none => False))
    | some (.int k) => (match fixedO h ad && allInt k cells with
      | true => chk (Nat.blt ad.off cells.length) (K (.int k (intAt cells ad.off)))
      | false => (match loadO E h t ad with | some v => K v | none => False))
    | _ => (match loadO E h t ad with | some v => K v | none => False))
  | none => (match loadO E h t ad with | some v => K v | none => False)

/-- Cells that are not told one by one: what stands at a place. -/
def cellIs (cells : List (Option Value)) (i : Nat) (v : Value) : Prop := cells[i]? = some (some v)
def cellsAre (cells : List (Option Value)) (i : Nat) (vs : List Value) : Prop := takeN (cells.drop i) vs.length = some vs
def fullC (cells : List (Option Value)) (n : Nat) : Prop := ∃ vs : List Value, vs.length = n ∧ cells = vs.map some
def bytesAre (cells : List (Option Value)) (i : Nat) (l : List UInt8) : Prop := takeN (cells.drop i) l.length = some (ofBytes l)
def putC (cells : List (Option Value)) (i : Nat) (vs : List Value) : List (Option Value) := cells.take i ++ vs.map some ++ cells.drop (i + vs.length)
def catC (cells : List (Option Value)) (vs : List Value) : List (Option Value) := cells ++ vs.map some

def symB (h : Heap) (k : Nat) : Option Blk := match getBlk h k with
  | some b => (match b.sym with | true => some b | false => none)
  | none => none

/-- So many cells, each by itself. -/
def exN : Nat → (List Value → Prop) → Prop
  | 0, K => K []
  | n + 1, K => ∃ v, exN n fun l => K (v :: l)

def loadS (E : Env) (b : Blk) (t : TypeId) (ad : Addr) (K : Value → Prop) : Prop :=
  match ad.spot, b.iter with
  | none, none => (match und E t with
    | some .string => ∃ s, cellIs b.cells ad.off (.string s) ∧ K (.string s)
    | some (.int k) => ∃ x, cellIs b.cells ad.off (.int k x) ∧ K (.int k x)
    | some .bool => ∃ x, cellIs b.cells ad.off (.bool x) ∧ K (.bool x)
    | some (.struct _) => (match sizeT E t with
      | some s => exN s fun l => cellsAre b.cells ad.off l ∧ K (.agg l.toArray)
      | none => False)
    | some (.array _ _) => False
    | some _ => ∃ v, cellIs b.cells ad.off v ∧ K v
    | none => False)
  | _, _ => False

def loadK (E : Env) (h : Heap) (t : TypeId) (ad : Addr) (K : Value → Prop) : Prop :=
  match symB h ad.block with
  | some b => loadS E b t ad K
  | none => loadK0 E h t ad K

/-- The heap with cells written at an address. -/
def storeO (h : Heap) (a : Addr) (vs : List Value) : Option Heap :=
  match a.spot with
  | some _ => none
  | none => match getBlk h a.block with
    | none => none
    | some b => match b.own, b.iter with
      | true, none => match putCells b.cells a.off vs, vs.all (·.oneCell') with
        | some cs, true => some (setBlk h a.block { cells := cs, elem := b.elem, own := true, room := b.room, iter := none, sym := b.sym })
        | _, _ => none
      | _, _ => none

/-- So, whether or not what is written are single cells. -/
def storeL (h : Heap) (a : Addr) (vs : List Value) : Option Heap :=
  match a.spot with
  | some _ => none
  | none => match getBlk h a.block with
    | none => none
    | some b => match b.own, b.iter with
      | true, none => match putCells b.cells a.off vs with
        | some cs => some (setBlk h a.block { cells := cs, elem := b.elem, own := true, room := b.room, iter := none, sym := b.sym })
        | none => none
      | _, _ => none

theorem storeL_eq {h h' : Heap} {a : Addr} {vs : List Value} (hv : vs.all (·.oneCell') = true) (hs : storeL h a vs = some h') : storeO h a vs = some h' := by
  unfold storeL at hs
  unfold storeO
  split at hs
  · cases hs
  · split at hs
    · cases hs
    · split at hs
      · split at hs
        · rename_i hc
          rw [hv, hc]
          exact hs
        · cases hs
      · cases hs

/-- Cells written; where what is written is not known, it is asked that they be single cells. -/
def storeK (E : Env) (h : Heap) (a : Addr) (vs : List Value) (K : Heap → Prop) : Prop :=
  match symB h a.block with
  | some b => (match a.spot, b.own, b.iter with
    | none, true, none => (vs.all (·.oneCell') = true ∧ a.off + vs.length ≤ b.cells.length) ∧ K (setBlk h a.block { cells := putC b.cells a.off vs, elem := b.elem, own := true, room := b.room, iter := none, sym := b.sym })
    | _, _, _ => False)
  | none => (match E.lax with
    | false => (match storeO h a vs with | some h' => K h' | none => False)
    | true => vs.all (·.oneCell') = true ∧ (match storeL h a vs with | some h' => K h' | none => False))

theorem symB_some {h : Heap} {k : Nat} {b : Blk} (hs : symB h k = some b) : getBlk h k = some b := by
  unfold symB at hs
  split at hs
  · rename_i c hc
    split at hs
    · cases hs; exact hc
    · cases hs
  · cases hs

theorem storeK_of {E : Env} {h : Heap} {a : Addr} {vs : List Value} {K : Heap → Prop} (hk : storeK E h a vs K) : ∃ h', storeO h a vs = some h' ∧ K h' := by
  unfold storeK at hk
  split at hk
  · rename_i b hs
    have hb := symB_some hs
    split at hk
    · rename_i h1 h2 h3
      obtain ⟨⟨h4, h5⟩, hk⟩ := hk
      refine ⟨_, ?_, hk⟩
      have h6 : Nat.ble (a.off + vs.length) b.cells.length = true := Nat.ble_eq_true_of_le h5
      simp only [storeO, h1, hb, h2, h3, putCells, h6, h4, putC]
    · exact hk.elim
  · split at hk
    · split at hk
      · rename_i h' hs
        exact ⟨h', hs, hk⟩
      · exact hk.elim
    · obtain ⟨hv, hk⟩ := hk
      split at hk
      · rename_i h' hs
        exact ⟨h', storeL_eq hv hs, hk⟩
      · exact hk.elim

/-- Where a slice begins that is cut l elements behind another one. -/
def cutA (cap l z : Nat) (a : Option Addr) : Option Addr := match Nat.beq cap l with | true => a | false => a.map fun x => x.add (l * z)

/-- The same, parted at once. -/
def cutK (cap l z : Nat) (a : Option Addr) (K : Option Addr → Prop) : Prop := match Nat.beq cap l with
  | true => K a
  | false => K (match a with | some x => some (addO x (l * z)) | none => none)
theorem cutK_eq {cap l z : Nat} {a : Option Addr} {K : Option Addr → Prop} : cutK cap l z a K = K (cutA cap l z a) := by
  have e : ∀ x : Addr, ∀ n, addO x n = x.add n := fun x n => by
    obtain ⟨b, o, s⟩ := x
    cases s with
    | some s => rfl
    | none =>
      simp only [addO, Addr.add]
      split
      · rename_i h; simp [h]
      · rfl
  unfold cutK cutA
  split
  · rfl
  · cases a with
    | none => rfl
    | some x => simp [e]

def natOf : Value → Option Int
  | .int _ n => some n
  | _ => none

/-- A bound of a slice expression: a number from 0 up to another one. -/
def boundK (v : Option Value) (dflt top : Nat) (K : Nat → Prop) : Prop :=
  match v with
  | none => K dflt
  | some v => match natOf v with
    | some n => chk (decide (0 ≤ n) && decide (n ≤ top)) (K n.toNat)
    | none => False

def fieldsOf (E : Env) (t : TypeId) : Array Field :=
  match und E t with
  | some (.struct fs) => fs
  | _ => #[]

def methodOf (E : Env) (t : TypeId) (name : String) : Option FuncId :=
  match E.P.info? t with
  | none => none
  | some i => match i.methods.find? (·.name == name) with
    | none => none
    | some m => match m.path.toList, m.func with
      | [], some (f, false) => match und E t with
        | some (.pointer _) => none
        | some _ => some f
        | none => none
      | _, _ => none

def minL (k : IntKind) : Int → List Value → Option Value
  | a, [] => some (.int k a)
  | a, .int _ b :: l => minL k (match decide (b < a) with | true => b | false => a) l
  | _, _ :: _ => none

def maxL (k : IntKind) : Int → List Value → Option Value
  | a, [] => some (.int k a)
  | a, .int _ b :: l => maxL k (match decide (b > a) with | true => b | false => a) l
  | _, _ :: _ => none

def bytesOf : List Value → Option (List UInt8)
  | [] => some []
  | .int .u8 n :: l => match bytesOf l with
    | some r => some (UInt8.ofNat n.toNat :: r)
    | none => none
  | _ :: _ => none

/-- What is appended: the cells of a slice, or of a string's bytes. -/
def sourceO (h : Heap) (size : Nat) : Value → Option (Nat × List Value)
  | .slice none n _ => match n with | 0 => some (0, []) | _ => none
  | .slice (some a) n _ => match cellsAt h a (n * size) with
    | some cs => some (n, cs)
    | none => none
  | .string s => match size with | 1 => some (strLen s, ofBytes s.data.toList) | _ => none
  | _ => none

def roomBlk (cs : List Value) (e : TypeId) (size : Nat) : Blk := { cells := cs.map some, elem := e, own := true, room := size, iter := none }

def srcT : Option TypeDesc → Bool
  | some (.slice _) => true
  | some .string => true
  | _ => false

def appendK0 (E : Env) (h : Heap) (n : Nat) (t u : TypeId) (s x : Value) (K : Value → Heap → Nat → Nat → Prop) : Prop :=
  match und E t, srcT (und E u) with
  | some (.slice e), true => match E.P.info? e, s with
    | some i, .slice base len cap => match i.zero, i.size, sourceO h i.size x with
      | some z, sz + 1, some (m, new) => chk (Nat.ble ((len + m) * i.bytes) 140737488355328 && Nat.ble (len + m) 140737488355328 && Nat.beq z.cells.size (sz + 1) && new.all (·.oneCell'))
        (match Nat.ble big cap with
          | true => match base with
            | some a => match a.spot, a.off, getBlk h a.block with
              | none, 0, some b => match b.own, b.iter, takeN b.cells (len * (sz + 1)), Nat.beq b.room (sz + 1), Nat.beq cap big, Nat.beq b.elem e with
                | true, none, some old, true, true, true => K (.slice (some ⟨n, 0, none⟩) (len + m) big) ((n, roomBlk (old ++ new) e (sz + 1)) :: dropBlk h a.block) (n + 1) a.block
                | _, _, _, _, _, _ => False
              | _, _, _ => False
            | none => False
          | false => match Nat.ble (len + m) cap with
            | true => match base with
              | none => match new with | [] => K (.slice none (len + m) cap) h n big | _ => False
              | some a => match a.spot, new with
                | none, [] => K (.slice (some a) (len + m) cap) h n big
                | none, new => match storeO h ⟨a.block, a.off + len * (sz + 1), none⟩ new with
                  | some h' => K (.slice (some a) (len + m) cap) h' n a.block
                  | none => False
                | _, _ => False
            | false => match sourceO h (sz + 1) (.slice base len cap) with
              | some (_, old) => K (.slice (some ⟨n, 0, none⟩) (len + m) big) ((n, roomBlk (old ++ new) e (sz + 1)) :: h) (n + 1) big
              | none => False)
      | _, _, _ => False
    | _, _ => False
  | _, _ => False

/-- Appended to a block whose cells are not told one by one. -/
def appendS (E : Env) (h : Heap) (n : Nat) (b : Blk) (t u : TypeId) (s x : Value) (K : Value → Heap → Nat → Nat → Prop) : Prop :=
  match und E t, srcT (und E u) with
  | some (.slice e), true => match E.P.info? e, s with
    | some i, .slice (some a) len cap => match i.zero, i.size, sourceO h i.size x, a.spot, a.off with
      | some z, sz + 1, some (m, new), none, 0 => match Nat.beq cap big, b.own, b.iter, Nat.beq b.room (sz + 1), Nat.beq b.elem e with
        | true, true, none, true, true => (((len + m) * i.bytes ≤ 140737488355328 ∧ len + m ≤ 140737488355328) ∧ fullC b.cells (len * (sz + 1))) ∧ chk (Nat.beq z.cells.size (sz + 1) && new.all (·.oneCell'))
            (K (.slice (some ⟨n, 0, none⟩) (len + m) big) ((n, { cells := catC b.cells new, elem := e, own := true, room := sz + 1, iter := none, sym := true }) :: dropBlk h a.block) (n + 1) a.block)
        | _, _, _, _, _ => False
      | _, _, _, _, _ => False
    | _, _ => False
  | _, _ => False

def symV (h : Heap) (v : Value) : Option Blk := match v with
  | .slice (some a) _ _ => symB h a.block
  | _ => none

def appendK (E : Env) (h : Heap) (n : Nat) (t u : TypeId) (s x : Value) (K : Value → Heap → Nat → Nat → Prop) : Prop :=
  match symV h s with
  | some b => appendS E h n b t u s x K
  | none => appendK0 E h n t u s x K

def builtinK (E : Env) (h : Heap) (n : Nat) (b : Builtin) (ts : List TypeId) (args : List Value) (K : Value → Heap → Nat → Nat → Prop) : Prop :=
  match b with
  | .len => match ts, args with
    | [t], [x] => match und E t, x with
      | some .string, .string s => K (.int .i64 (strLen s)) h n big
      | some (.slice _), .slice _ m _ => K (.int .i64 m) h n big
      | some (.array m _), _ => K (.int .i64 m) h n big
      | _, _ => False
    | _, _ => False
  | .cap => match ts, args with
    | [t], [.slice _ _ m] => match und E t with | some (.slice _) => chk (Nat.blt m big) (K (.int .i64 m) h n big) | _ => False
    | _, _ => False
  | .min => match args with
    | .int k a :: l => match minL k a l with | some v => K v h n big | none => False
    | _ => False
  | .max => match args with
    | .int k a :: l => match maxL k a l with | some v => K v h n big | none => False
    | _ => False
  | .append => match ts, args with
    | [t, u], [s, x] => appendK E h n t u s x K
    | _, _ => False
  | .copy => match ts, args with
    | [t, _], [.slice _ dl _, .slice _ sl _] => match und E t with
      | some (.slice e) => (match E.P.info? e with
        | some i => chk (Nat.beq i.size 1 && (Nat.beq sl 0 || Nat.beq dl 0)) (K (.int .i64 0) h n big)
        | none => False)
      | _ => False
    | _, _ => False
  | _ => False

def convK0 (E : Env) (h : Heap) (n : Nat) (src dst : TypeId) (x : Value) (K : Value → Heap → Nat → Nat → Prop) : Prop :=
  match und E src, und E dst with
  | some _, some (.int k) => match x with | .int _ a => K (.int k (k.wrap a)) h n big | _ => False
  | some s, some .string => match x with
    | .int _ a => K (.string (Utf8.encode a)) h n big
    | .string s => K (.string s) h n big
    | .slice none _ _ => match s with
      | .slice e => match und E e with | some (.int .u8) => K (.string ⟨#[]⟩) h n big | _ => False
      | _ => False
    | .slice (some a) len _ => match s with
      | .slice e => match und E e with
        | some (.int .u8) => match cellsAt h a len with
          | some cs => match bytesOf cs with
            | some l => K (.string ⟨l.toArray⟩) h n big
            | none => False
          | none => False
        | _ => False
      | _ => False
    | _ => False
  | _, _ => False

def convK (E : Env) (h : Heap) (n : Nat) (src dst : TypeId) (x : Value) (K : Value → Heap → Nat → Nat → Prop) : Prop :=
  match symV h x with
  | none => convK0 E h n src dst x K
  | some b => match und E src, und E dst, x with
    | some (.slice e), some .string, .slice (some a) len _ => match und E e, a.spot, b.iter with
      | some (.int .u8), none, none => ∃ l : List UInt8, (l.length = len ∧ bytesAre b.cells a.off l) ∧ K (.string ⟨l.toArray⟩) h n big
      | _, _, _ => False
    | _, _, _ => False

/-- What a closure is called with: its arguments, and what it has caught. -/
def addCaps (l : List Value) : List Value → List Value
  | [] => l
  | c :: cs => l ++ (c :: cs)

/-- A call of a function: what an oracle tells of it, else its body. -/
def callK (E : Env) (call : FuncId → List Value → Heap → Nat → (Value → Heap → Nat → Nat → Prop) → Prop) (g : FuncId) (args : List Value) (h : Heap) (n : Nat) (K : Value → Heap → Nat → Nat → Prop) : Prop :=
  match E.oracle g args h n with
  | some T => T K
  | none => call g args h n K

def opK0 (E : Env) (call : FuncId → List Value → Heap → Nat → (Value → Heap → Nat → Nat → Prop) → Prop) (o : Oper) (ρ : Operand → Value) (h : Heap) (n : Nat)
    (K : Value → Heap → Nat → Nat → Prop) : Prop :=
  match o.op with
  | .move x => K (ρ x) h n big
  | .assign x => K (ρ x) h n big
  | .pick c a b => match ρ c with
    | .bool t => (match t with | true => K (ρ a) h n big | false => K (ρ b) h n big)
    | _ => False
  | .alloc e => match zeroT E e with
    | some z => K (.pointer (some ⟨n, 0, none⟩)) ((n, mkBlk z.cells.toList e) :: h) (n + 1) big
    | none => False
  | .box e x => K (.pointer (some ⟨n, 0, none⟩)) ((n, mkBlk (ρ x).cells.toList e) :: h) (n + 1) big
  | .build t parts => chk (Nat.blt t E.P.types.size) (match E.P.built t (parts.toList.map fun p => (p.1, ρ p.2)) with
    | some cs => K (.agg cs) h n big
    | none => False)
  | .buildSlice t len parts => match Nat.beq len 0, parts.toList with
    | true, [] => (match und E t with
      | some (.slice e) => (match sizeT E e with
        | some _ => K (.slice (some ⟨n, 0, none⟩) 0 0) ((n, mkBlk [] e) :: h) (n + 1) big
        | none => False)
      | _ => False)
    | _, ps => match und E t with
      | some (.slice e) => match sizeT E e, zeroT E e with
        | some (sz + 1), some z => chk (Nat.ble (len * (sz + 1)) 16777216 && Nat.beq z.cells.size (sz + 1) && Nat.blt 0 len)
            (match Instr.fill (fun i => some (i * (sz + 1), (sz + 1))) (repeatL z.cells.toList len).toArray (ps.map fun p => (p.1, ρ p.2)) with
            | some cs => K (.slice (some ⟨n, 0, none⟩) len len) ((n, mkBlk cs.toList e) :: h) (n + 1) big
            | none => False)
        | _, _ => False
      | _ => False
  | .load t a => match ρ a with
    | .pointer (some ad) => loadK E h t ad fun v => K v h n big
    | _ => False
  | .store t a x => match ρ a with
    | .pointer (some ad) => match sizeT E t with
      | some s => match Nat.beq (ρ x).cells.size s with
        | true => storeK E h ad (ρ x).cells.toList fun h' => K undef h' n ad.block
        | false => False
      | none => False
    | _ => False
  | .nilCheck x => match ρ x with
    | .pointer (some a) => K (.pointer (some a)) h n big
    | .iface t v => K (.iface t v) h n big
    | _ => False
  | .binOp op t x y _ => binK E op t x y (ρ x) (ρ y) (fun v => K v h n big)
  | .unOp op _ x => unK op (ρ x) (fun v => K v h n big)
  | .convert src dst x => convK E h n src dst (ρ x) K
  | .makeInterface t x => match und E t with
    | some (.interface _) => False
    | some _ => K (.iface t (ρ x)) h n big
    | none => False
  | .makeSlice t l c => match und E t, ρ l, ρ c with
    | some (.slice e), .int .i64 a, .int .i64 b => match E.P.info? e with
      | some i => match i.zero with
        | some z => chk (decide (0 ≤ a) && decide (a ≤ b) && decide (b ≤ 1048576) && Nat.ble i.bytes 1048576 && Nat.beq z.cells.size i.size && Nat.blt e E.P.types.size)
            (K (.slice (some ⟨n, 0, none⟩) a.toNat b.toNat) ((n, mkBlk (repeatL z.cells.toList b.toNat) e) :: h) (n + 1) big)
        | none => False
      | none => False
    | _, _, _ => False
  | .slice t x lo hi mx => match mx with
    | some _ => False
    | none => match und E t, ρ x with
      | some .string, .string s => boundK (hi.map ρ) (strLen s) (strLen s) fun m => boundK (lo.map ρ) 0 m fun l => K (.string (strCut s l m)) h n big
      | some (.slice e), .slice a len cap => match sizeT E e with
        | some z => match Nat.ble big cap with
          | true => match a with
            | some ad => match getBlk h ad.block, ad.off with
              | some b, 0 => chk (Nat.beq cap big && Nat.beq b.room z && Nat.blt 0 z && Nat.ble (len * z) b.cells.length && b.iter.isNone)
                  (boundK (hi.map ρ) len len fun m => boundK (lo.map ρ) 0 m fun l => match l with | 0 => K (.slice a m cap) h n big | j + 1 => chk (Nat.blt (j + 1) len) (K (.slice (some (ad.add ((j + 1) * z))) (m - (j + 1)) (big + (j + 1))) h n big))
              | _, _ => False
            | none => False
          | false => boundK (hi.map ρ) len cap fun m => boundK (lo.map ρ) 0 m fun l =>
              cutK cap l z a fun a => K (.slice a (m - l) (cap - l)) h n big
        | none => False
      | some (.array len e), .pointer (some a) => match sizeT E e with
        | some z => chk (Nat.blt len big) (boundK (hi.map ρ) len len fun m => boundK (lo.map ρ) 0 m fun l =>
            cutK len l z (some a) fun a => K (.slice a (m - l) (len - l)) h n big)
        | none => False
      | _, _ => False
  | .fieldAddr s x f => match ρ x, (fieldsOf E s)[f]? with
    | .pointer (some a), some fl => match sizeT E fl.type with
      | some (_ + 1) => K (.pointer (some (a.add fl.offset))) h n big
      | _ => False
    | _, _ => False
  | .field t x f => match ρ x, (fieldsOf E t)[f]? with
    | .agg cs, some fl => match partO E fl.type cs fl.offset with | some v => K v h n big | none => False
    | _, _ => False
  | .indexAddr t x ix => match und E t, ρ x, ρ ix with
    | some (.array len e), .pointer (some a), .int _ i => match sizeT E e with
      | some z => chk (decide (0 ≤ i) && decide (i < len)) (K (.pointer (some (addO a (i.toNat * z)))) h n big)
      | none => False
    | some (.slice e), .slice (some a) len _, .int _ i => match sizeT E e with
      | some z => chk (decide (0 ≤ i) && decide (i < len)) (K (.pointer (some (addO a (i.toNat * z)))) h n big)
      | none => False
    | _, _, _ => False
  | .index t x ix => match und E t, ρ x, ρ ix with
    | some (.array len e), .agg cs, .int _ i => match sizeT E e with
      | some z => chk (decide (0 ≤ i) && decide (i < len)) (match partO E e cs (i.toNat * z) with | some v => K v h n big | none => False)
      | none => False
    | some .string, .string s, .int _ i => chk (decide (0 ≤ i) && decide (i < strLen s)) (K (.int .u8 (byteAt s.data.toList i.toNat).toNat) h n big)
    | _, _, _ => False
  | .range t x => match und E t, ρ x with
    | some .string, .string s => K (.pointer (some ⟨n, 0, none⟩)) ((n, { cells := [], elem := 0, own := true, room := 0, iter := some (s, 0) }) :: h) (n + 1) big
    | _, _ => False
  | .next it isS => match isS, ρ it with
    | true, .pointer (some ⟨r, 0, none⟩) => match getBlk h r with
      | some b => match b.iter with
        | some (s, pos) => match Nat.blt pos (strLen s) with
          | true => K (.tuple #[.bool true, .int .i64 pos, .int .i32 (Utf8.decode s pos).1]) (setBlk h r { b with iter := some (s, pos + (Utf8.decode s pos).2) }) n r
          | false => K (.tuple #[.bool false]) h n big
        | none => False
      | none => False
    | _, _ => False
  | .typeAssert x _ t ok => match und E t, ρ x with
    | some (.interface _), _ => False
    | some _, .nilIface => match ok, zeroT E t with | true, some z => K (.tuple #[z, .bool false]) h n big | _, _ => False
    | some _, .iface u v => match Nat.beq u t with
      | true => match ok with | true => K (.tuple #[v, .bool true]) h n big | false => K v h n big
      | false => match ok, zeroT E t with | true, some z => K (.tuple #[z, .bool false]) h n big | _, _ => False
    | _, _ => False
  | .extract x ix => match ρ x with
    | .tuple vs => match vs[ix]? with | some v => K v h n big | none => False
    | _ => False
  | .call c => match c.callee with
    | .value f => match ρ f with
      | .func (.func g) ⟨[]⟩ ⟨caps⟩ => callK E call g (addCaps (c.args.toList.map ρ) caps) h n K
      | _ => False
    | .invoke r name => match ρ r with
      | .iface t v => match methodOf E t name with
        | some g => callK E call g (v :: c.args.toList.map ρ) h n K
        | none => False
      | _ => False
    | .builtin b => builtinK E h n b c.argTypes.toList (c.args.toList.map ρ) K
  | .makeFunc fn first captured => match fn, first.toList with
    | .func g, [] => K (.func (.func g) ⟨[]⟩ ⟨captured.toList.map ρ⟩) h n big
    | _, _ => False
  | _ => False

/-- What an operation does, by itself: a kernel finds it once. -/
structure OpFn where
  run : Env → (FuncId → List Value → Heap → Nat → (Value → Heap → Nat → Nat → Prop) → Prop) → Oper → (Operand → Value) → Heap → Nat → (Value → Heap → Nat → Nat → Prop) → Prop

/-- The same, told so that a kernel need not look at what it leaves: each case by itself. -/
noncomputable def opF (op : Op) : OpFn :=
  match op with
  | .move x => ⟨fun _ _ _ ρ h n K => K (ρ x) h n big⟩
  | .assign x => ⟨fun _ _ _ ρ h n K => K (ρ x) h n big⟩
  | .pick c a b => ⟨fun _ _ _ ρ h n K => match ρ c with
    | .bool t => (match t with | true => K (ρ a) h n big | false => K (ρ b) h n big)
    | _ => False⟩
  | .alloc e => ⟨fun E _ _ _ h n K => match zeroT E e with
    | some z => K (.pointer (some ⟨n, 0, none⟩)) ((n, mkBlk z.cells.toList e) :: h) (n + 1) big
    | none => False⟩
  | .box e x => ⟨fun _ _ _ ρ h n K => K (.pointer (some ⟨n, 0, none⟩)) ((n, mkBlk (ρ x).cells.toList e) :: h) (n + 1) big⟩
  | .build t parts => ⟨fun E _ _ ρ h n K => chk (Nat.blt t E.P.types.size) (match E.P.built t (parts.toList.map fun p => (p.1, ρ p.2)) with
    | some cs => K (.agg cs) h n big
    | none => False)⟩
  | .buildSlice t len parts => ⟨fun E _ _ ρ h n K => match Nat.beq len 0, parts.toList with
    | true, [] => (match und E t with
      | some (.slice e) => (match sizeT E e with
        | some _ => K (.slice (some ⟨n, 0, none⟩) 0 0) ((n, mkBlk [] e) :: h) (n + 1) big
        | none => False)
      | _ => False)
    | _, ps => match und E t with
      | some (.slice e) => match sizeT E e, zeroT E e with
        | some (sz + 1), some z => chk (Nat.ble (len * (sz + 1)) 16777216 && Nat.beq z.cells.size (sz + 1) && Nat.blt 0 len)
            (match Instr.fill (fun i => some (i * (sz + 1), (sz + 1))) (repeatL z.cells.toList len).toArray (ps.map fun p => (p.1, ρ p.2)) with
            | some cs => K (.slice (some ⟨n, 0, none⟩) len len) ((n, mkBlk cs.toList e) :: h) (n + 1) big
            | none => False)
        | _, _ => False
      | _ => False⟩
  | .load t a => ⟨fun E _ _ ρ h n K => match ρ a with
    | .pointer (some ad) => loadK E h t ad fun v => K v h n big
    | _ => False⟩
  | .store t a x => ⟨fun E _ _ ρ h n K => match ρ a with
    | .pointer (some ad) => match sizeT E t with
      | some s => match Nat.beq (ρ x).cells.size s with
        | true => storeK E h ad (ρ x).cells.toList fun h' => K undef h' n ad.block
        | false => False
      | none => False
    | _ => False⟩
  | .nilCheck x => ⟨fun _ _ _ ρ h n K => match ρ x with
    | .pointer (some a) => K (.pointer (some a)) h n big
    | .iface t v => K (.iface t v) h n big
    | _ => False⟩
  | .binOp op t x y _ => ⟨fun E _ _ ρ h n K => binK E op t x y (ρ x) (ρ y) (fun v => K v h n big)⟩
  | .unOp op _ x => ⟨fun _ _ _ ρ h n K => unK op (ρ x) (fun v => K v h n big)⟩
  | .convert src dst x => ⟨fun E _ _ ρ h n K => convK E h n src dst (ρ x) K⟩
  | .makeInterface t x => ⟨fun E _ _ ρ h n K => match und E t with
    | some (.interface _) => False
    | some _ => K (.iface t (ρ x)) h n big
    | none => False⟩
  | .makeSlice t l c => ⟨fun E _ _ ρ h n K => match und E t, ρ l, ρ c with
    | some (.slice e), .int .i64 a, .int .i64 b => match E.P.info? e with
      | some i => match i.zero with
        | some z => chk (decide (0 ≤ a) && decide (a ≤ b) && decide (b ≤ 1048576) && Nat.ble i.bytes 1048576 && Nat.beq z.cells.size i.size && Nat.blt e E.P.types.size)
            (K (.slice (some ⟨n, 0, none⟩) a.toNat b.toNat) ((n, mkBlk (repeatL z.cells.toList b.toNat) e) :: h) (n + 1) big)
        | none => False
      | none => False
    | _, _, _ => False⟩
  | .slice t x lo hi mx => ⟨fun E _ _ ρ h n K => match mx with
    | some _ => False
    | none => match und E t, ρ x with
      | some .string, .string s => boundK (hi.map ρ) (strLen s) (strLen s) fun m => boundK (lo.map ρ) 0 m fun l => K (.string (strCut s l m)) h n big
      | some (.slice e), .slice a len cap => match sizeT E e with
        | some z => match Nat.ble big cap with
          | true => match a with
            | some ad => match getBlk h ad.block, ad.off with
              | some b, 0 => chk (Nat.beq cap big && Nat.beq b.room z && Nat.blt 0 z && Nat.ble (len * z) b.cells.length && b.iter.isNone)
                  (boundK (hi.map ρ) len len fun m => boundK (lo.map ρ) 0 m fun l => match l with | 0 => K (.slice a m cap) h n big | j + 1 => chk (Nat.blt (j + 1) len) (K (.slice (some (ad.add ((j + 1) * z))) (m - (j + 1)) (big + (j + 1))) h n big))
              | _, _ => False
            | none => False
          | false => boundK (hi.map ρ) len cap fun m => boundK (lo.map ρ) 0 m fun l =>
              cutK cap l z a fun a => K (.slice a (m - l) (cap - l)) h n big
        | none => False
      | some (.array len e), .pointer (some a) => match sizeT E e with
        | some z => chk (Nat.blt len big) (boundK (hi.map ρ) len len fun m => boundK (lo.map ρ) 0 m fun l =>
            cutK len l z (some a) fun a => K (.slice a (m - l) (len - l)) h n big)
        | none => False
      | _, _ => False⟩
  | .fieldAddr s x f => ⟨fun E _ _ ρ h n K => match ρ x, (fieldsOf E s)[f]? with
    | .pointer (some a), some fl => match sizeT E fl.type with
      | some (_ + 1) => K (.pointer (some (a.add fl.offset))) h n big
      | _ => False
    | _, _ => False⟩
  | .field t x f => ⟨fun E _ _ ρ h n K => match ρ x, (fieldsOf E t)[f]? with
    | .agg cs, some fl => match partO E fl.type cs fl.offset with | some v => K v h n big | none => False
    | _, _ => False⟩
  | .indexAddr t x ix => ⟨fun E _ _ ρ h n K => match und E t, ρ x, ρ ix with
    | some (.array len e), .pointer (some a), .int _ i => match sizeT E e with
      | some z => chk (decide (0 ≤ i) && decide (i < len)) (K (.pointer (some (addO a (i.toNat * z)))) h n big)
      | none => False
    | some (.slice e), .slice (some a) len _, .int _ i => match sizeT E e with
      | some z => chk (decide (0 ≤ i) && decide (i < len)) (K (.pointer (some (addO a (i.toNat * z)))) h n big)
      | none => False
    | _, _, _ => False⟩
  | .index t x ix => ⟨fun E _ _ ρ h n K => match und E t, ρ x, ρ ix with
    | some (.array len e), .agg cs, .int _ i => match sizeT E e with
      | some z => chk (decide (0 ≤ i) && decide (i < len)) (match partO E e cs (i.toNat * z) with | some v => K v h n big | none => False)
      | none => False
    | some .string, .string s, .int _ i => chk (decide (0 ≤ i) && decide (i < strLen s)) (K (.int .u8 (byteAt s.data.toList i.toNat).toNat) h n big)
    | _, _, _ => False⟩
  | .range t x => ⟨fun E _ _ ρ h n K => match und E t, ρ x with
    | some .string, .string s => K (.pointer (some ⟨n, 0, none⟩)) ((n, { cells := [], elem := 0, own := true, room := 0, iter := some (s, 0) }) :: h) (n + 1) big
    | _, _ => False⟩
  | .next it isS => ⟨fun _ _ _ ρ h n K => match isS, ρ it with
    | true, .pointer (some ⟨r, 0, none⟩) => match getBlk h r with
      | some b => match b.iter with
        | some (s, pos) => match Nat.blt pos (strLen s) with
          | true => K (.tuple #[.bool true, .int .i64 pos, .int .i32 (Utf8.decode s pos).1]) (setBlk h r { b with iter := some (s, pos + (Utf8.decode s pos).2) }) n r
          | false => K (.tuple #[.bool false]) h n big
        | none => False
      | none => False
    | _, _ => False⟩
  | .typeAssert x _ t ok => ⟨fun E _ _ ρ h n K => match und E t, ρ x with
    | some (.interface _), _ => False
    | some _, .nilIface => match ok, zeroT E t with | true, some z => K (.tuple #[z, .bool false]) h n big | _, _ => False
    | some _, .iface u v => match Nat.beq u t with
      | true => match ok with | true => K (.tuple #[v, .bool true]) h n big | false => K v h n big
      | false => match ok, zeroT E t with | true, some z => K (.tuple #[z, .bool false]) h n big | _, _ => False
    | _, _ => False⟩
  | .extract x ix => ⟨fun _ _ _ ρ h n K => match ρ x with
    | .tuple vs => match vs[ix]? with | some v => K v h n big | none => False
    | _ => False⟩
  | .call c => ⟨fun E call _ ρ h n K => match c.callee with
    | .value f => match ρ f with
      | .func (.func g) ⟨[]⟩ ⟨caps⟩ => callK E call g (addCaps (c.args.toList.map ρ) caps) h n K
      | _ => False
    | .invoke r name => match ρ r with
      | .iface t v => match methodOf E t name with
        | some g => callK E call g (v :: c.args.toList.map ρ) h n K
        | none => False
      | _ => False
    | .builtin b => builtinK E h n b c.argTypes.toList (c.args.toList.map ρ) K⟩
  | .makeFunc fn first captured => ⟨fun _ _ _ ρ h n K => match fn, first.toList with
    | .func g, [] => K (.func (.func g) ⟨[]⟩ ⟨captured.toList.map ρ⟩) h n big
    | _, _ => False⟩
  | _ => ⟨fun _ _ _ _ _ _ _ => False⟩

noncomputable def opK (E : Env) (call : FuncId → List Value → Heap → Nat → (Value → Heap → Nat → Nat → Prop) → Prop) (o : Oper) (ρ : Operand → Value) (h : Heap) (n : Nat)
    (K : Value → Heap → Nat → Nat → Prop) : Prop := (opF o.op).run E call o ρ h n K

theorem opK_eq (E : Env) (call : FuncId → List Value → Heap → Nat → (Value → Heap → Nat → Nat → Prop) → Prop) (o : Oper) (ρ : Operand → Value) (h : Heap) (n : Nat)
    (K : Value → Heap → Nat → Nat → Prop) : opK E call o ρ h n K = opK0 E call o ρ h n K := by
  unfold opK opK0
  cases o.op <;> rfl

/-! ### Regions, code, functions -/

/-- The less of two, reckoned at once. -/
noncomputable def minK (a b : Nat) (K : Nat → Prop) : Prop := Bool.rec (motive := fun _ => Prop) (K b) (K a) (Nat.ble a b)

theorem minK_eq (a b : Nat) (K : Nat → Prop) : minK a b K = K (min a b) := by
  unfold minK
  rcases h : Nat.ble a b with _ | _
  · rw [Nat.min_eq_right (Nat.le_of_lt (ble_false h))]
  · rw [Nat.min_eq_left (ble_true h)]

def putSt (s : St) (dst : Option Tmp) (v : Value) (h : Heap) (n mw : Nat) (K : St → Prop) : Prop :=
  St.rec (motive := fun _ => Prop) (fun tmps _ _ mw0 size fn df => minK mw0 mw fun m => Option.rec (motive := fun _ => Prop) (K ⟨tmps, h, n, m, size, fn, df⟩)
    (fun d => chk (Nat.blt d size) (K ⟨(d, v) :: tmps, h, n, m, size, fn, df⟩)) dst) s

theorem putSt_eq (s : St) (dst : Option Tmp) (v : Value) (h : Heap) (n mw : Nat) (K : St → Prop) : putSt s dst v h n mw K = match dst with
  | none => K { tmps := s.tmps, heap := h, next := n, mw := min s.mw mw, size := s.size, fn := s.fn, df := s.df }
  | some d => chk (Nat.blt d s.size) (K { tmps := (d, v) :: s.tmps, heap := h, next := n, mw := min s.mw mw, size := s.size, fn := s.fn, df := s.df }) := by
  cases s
  cases dst <;> simp only [putSt, minK_eq]

def guessO (E : Env) (f : FuncId) (dst : Option Tmp) : Option Bool :=
  match dst with
  | none => none
  | some d => E.guess f d

/-- A bool is parted at once (or is asked to be what it is guessed to be), so that what stands in a slot is true or false. -/
def putK (E : Env) (s : St) (o : Oper) (v : Value) (h : Heap) (n mw : Nat) (K : St → Prop) : Prop :=
  match E.isBool o.type with
  | true => match v with
    | .bool b => (match guessO E s.fn o.dst with
      | some t => b = t ∧ putSt s o.dst (.bool t) h n mw K
      | none => (match b with | true => putSt s o.dst (.bool true) h n mw K | false => putSt s o.dst (.bool false) h n mw K))
    | v => putSt s o.dst v h n mw K
  | false => putSt s o.dst v h n mw K

noncomputable def guardV (ops : List Oper) (tmps : List (Nat × Value)) (j : Nat) : Option Bool :=
  match nth ops j with
  | some o => match o.dst with
    | some d => match getTmp tmps d with
      | .bool b => some b
      | _ => none
    | none => none
  | none => none

noncomputable def wantG (ops : List Oper) (tmps : List (Nat × Value)) (g : Nat × Bool) (yes no : Prop) : Prop :=
  match guardV ops tmps g.1 with
    | some true => (match g.2 with | true => yes | false => no)
    | some false => (match g.2 with | true => no | false => yes)
    | none => no

noncomputable def wantK (ops : List Oper) (tmps : List (Nat × Value)) (g : Option (Nat × Bool)) (yes no : Prop) : Prop :=
  Option.rec (motive := fun _ => Prop) yes (fun g => wantG ops tmps g yes no) g

theorem wantK_eq (ops : List Oper) (tmps : List (Nat × Value)) (g : Option (Nat × Bool)) (yes no : Prop) : wantK ops tmps g yes no = match g with
  | none => yes
  | some (j, want) => match guardV ops tmps j with
    | some true => (match want with | true => yes | false => no)
    | some false => (match want with | true => no | false => yes)
    | none => no := by
  cases g <;> rfl

/-- A call put off: of a function value, without arguments. -/
def deferK (ρ : Operand → Value) (c : Call) (K : FuncId × List Value → Prop) : Prop :=
  match c.callee, c.args.toList with
  | .value f, [] => match ρ f with
    | .func (.func g) ⟨[]⟩ ⟨caps⟩ => K (g, caps)
    | _ => False
  | _, _ => False

/-- One operation of a list, by itself. -/
structure OneFn where
  run : Env → (FuncId → List Value → Heap → Nat → (Value → Heap → Nat → Nat → Prop) → Prop) → St → (St → Prop) → List (Nat × Value) → Heap → Nat → Nat → Nat → FuncId → List (FuncId × List Value) → Prop

noncomputable def oneF (o : Oper) : OneFn :=
  match o.op with
  | .defer c => ⟨fun _ _ _ C tmps heap next mw size fn df => deferK (evalO tmps) c fun d => putSt ⟨tmps, heap, next, mw, size, fn, d :: df⟩ o.dst undef heap next big C⟩
  | _ => ⟨fun E call s C tmps heap next _ _ _ _ => opK E call o (evalO tmps) heap next fun v h n m => putK E s o v h n m C⟩

noncomputable def opsK (E : Env) (call : FuncId → List Value → Heap → Nat → (Value → Heap → Nat → Nat → Prop) → Prop) (ops : List Oper) (l : List Oper) : St → (St → Prop) → Prop :=
  List.rec (motive := fun _ => St → (St → Prop) → Prop) (fun s K => K s)
    (fun o _ ih s K => St.rec (motive := fun _ => Prop) (fun tmps heap next mw size fn df => wantK ops tmps o.guard ((oneF o).run E call ⟨tmps, heap, next, mw, size, fn, df⟩ (fun s => ih s K) tmps heap next mw size fn df)
      (putSt ⟨tmps, heap, next, mw, size, fn, df⟩ o.dst undef heap next big fun s => ih s K)) s) l

theorem opsK_cons (E : Env) (call : FuncId → List Value → Heap → Nat → (Value → Heap → Nat → Nat → Prop) → Prop) (ops : List Oper) (o : Oper) (rest : List Oper) (s : St) (K : St → Prop) : opsK E call ops (o :: rest) s K = wantK ops s.tmps o.guard
      (match o.op with
        | .defer c => deferK (evalO s.tmps) c fun d => putSt { s with df := d :: s.df } o.dst undef s.heap s.next big fun s => opsK E call ops rest s K
        | _ => opK E call o (evalO s.tmps) s.heap s.next fun v h n mw => putK E s o v h n mw fun s => opsK E call ops rest s K)
      (putSt s o.dst undef s.heap s.next big fun s => opsK E call ops rest s K) := by
  obtain ⟨tmps, heap, next, mw, size, fn, df⟩ := s
  refine congrArg (fun p => wantK ops tmps o.guard p (putSt ⟨tmps, heap, next, mw, size, fn, df⟩ o.dst undef heap next big fun s => opsK E call ops rest s K)) ?_
  show (oneF o).run E call ⟨tmps, heap, next, mw, size, fn, df⟩ (fun s => opsK E call ops rest s K) tmps heap next mw size fn df = _
  unfold oneF
  cases o.op <;> rfl

/-! ### Regions whose order is drawn -/

/-- Some of a region's operations, as a number's bits. -/
structure Msk where
  m : Nat

def inL (a : Msk) (n : Nat) : Bool := Nat.beq (Nat.land (Nat.shiftRight a.m n) 1) 1

def orM (a b : Msk) : Msk := ⟨Nat.lor a.m b.m⟩
def bitM (n : Nat) : Msk := ⟨Nat.shiftLeft 1 n⟩

def nthL : List Msk → Nat → Msk
  | [], _ => ⟨0⟩
  | x :: _, 0 => x
  | _ :: l, n + 1 => nthL l n

/-- What is listed ahead of an operation in every order. -/
def ancOf (acc : List Msk) (i : Nat) : List Edge → Msk
  | [] => ⟨0⟩
  | e :: l => match Region.binds .any e with
    | true => (match Nat.blt e.on i with
      | true => orM (bitM e.on) (orM (nthL acc e.on) (ancOf acc i l))
      | false => ancOf acc i l)
    | false => ancOf acc i l

def ancL : List Msk → Nat → List Oper → List Msk
  | acc, _, [] => acc
  | acc, i, o :: l => ancL (acc ++ [ancOf acc i o.after.toList]) (i + 1) l

/-- 0: no memory; 1: a load; 2: a store; 3: a call; 4: what reads no memory and may give a name; 5: what looks at its operands' blocks. -/
def clsOf : Op → Nat
  | .load _ _ => 1
  | .store _ _ _ => 2
  | .alloc _ | .box _ _ | .buildSlice _ _ _ | .makeSlice _ _ _ | .range _ _ => 4
  | .next _ _ | .convert _ _ _ | .slice _ _ _ _ _ => 5
  | .call c => match c.callee with
    | .builtin .append => 5
    | .builtin .copy => 5
    | .builtin _ => 0
    | _ => 3
  | _ => 0

def allI : (Nat → Oper → Bool) → Nat → List Oper → Bool
  | _, _, [] => true
  | p, i, o :: l => match p i o with | true => allI p (i + 1) l | false => false

def tmpsOf : List Operand → List Nat
  | [] => []
  | .tmp t :: l => t :: tmpsOf l
  | _ :: l => tmpsOf l

def dstIs (o : Oper) (t : Nat) : Bool := match o.dst with | some d => Nat.beq d t | none => false

/-- What of a region does not hang on what is reckoned. -/
def drawStatic (ops : List Oper) (an : List Msk) : Bool :=
  allI (fun i o =>
    o.after.toList.all (fun e => match Region.binds .any e with | true => Nat.blt e.on i | false => true) &&
    (tmpsOf o.op.operands.toList).all (fun t => allI (fun j p => match dstIs p t with | true => inL (nthL an i) j || Nat.beq i j || inL (nthL an j) i | false => true) 0 ops) &&
    (match o.guard with | some (g, _) => inL (nthL an i) g | none => true) &&
    (match o.dst with | some d => allI (fun j p => match dstIs p d with | true => Nat.beq i j | false => true) 0 ops | none => true)) 0 ops

/-- Names that operations of a list have given: (operation, from, to). -/
def owned (anc : Msk) : List (Nat × Nat × Nat) → Nat → Bool
  | [], _ => false
  | (j, lo, hi) :: r, k => match Nat.ble lo k && Nat.blt k hi with | true => inL anc j | false => owned anc r k

def visible (anc : Msk) (rg : List (Nat × Nat × Nat)) (n0 k : Nat) : Bool := match Nat.blt k n0 with | true => true | false => owned anc rg k

def keepH (p : Nat → Bool) : Heap → Heap
  | [] => []
  | (k, b) :: h => match p k with | true => (k, b) :: keepH p h | false => keepH p h

def noBlk : Heap → Bool
  | [] => true
  | _ :: _ => false

/-- What operations of a list looked at, and from where on they wrote: (operation, blocks, from). -/
abbrev Recs := List (Nat × Heap × Nat)

def hasB (h : Heap) (k : Nat) : Bool := match getBlk h k with | some _ => true | none => false
def inW (V : Heap) (mw k : Nat) : Bool := match Nat.ble mw k with | true => hasB V k | false => false

/-- Nothing that stands beside it wrote it (or, of a wild region, looked at it). -/
def freeOf (W : Bool) (an : Msk) (k : Nat) : Recs → Bool
  | [] => true
  | (j, V, mw) :: r => match inL an j with
    | true => freeOf W an k r
    | false => (match (match W with | true => hasB V k | false => inW V mw k) with | true => false | false => freeOf W an k r)

def noneIn (V : Heap) (mw : Nat) : Heap → Bool
  | [] => true
  | (k, _) :: U => match inW V mw k with | true => false | false => noneIn V mw U

/-- It writes nothing at which what stands beside it looked. -/
def apartR (an : Msk) (V : Heap) (mw : Nat) : Recs → Bool
  | [] => true
  | (j, U, _) :: r => match inL an j with | true => apartR an V mw r | false => (match noneIn V mw U with | true => apartR an V mw r | false => false)

def opBlk (v : Value) (k : Nat) : Bool := match v with
  | .slice (some a) _ _ => Nat.beq a.block k
  | .pointer (some a) => Nat.beq a.block k
  | _ => false
def opBlks (k : Nat) : List Value → Bool
  | [] => false
  | v :: l => match opBlk v k with | true => true | false => opBlks k l

/-- It depends on these names alone. -/
def okV (p : Nat → Bool) : Nat → Value → Bool
  | 0, _ => false
  | _, .bool _ => true
  | _, .int _ _ => true
  | _, .float _ _ => true
  | _, .complex _ _ _ => true
  | _, .string _ => true
  | _, .nilIface => true
  | _, .nilFunc => true
  | _, .map none => true
  | _, .pointer none => true
  | _, .pointer (some a) => p a.block
  | _, .slice none _ _ => true
  | _, .slice (some a) _ _ => p a.block
  | d + 1, .iface _ v => okV p d v
  | d + 1, .agg cs => cs.toList.all (okV p d)
  | d + 1, .tuple cs => cs.toList.all (okV p d)
  | d + 1, .func _ a b => a.toList.all (okV p d) && b.toList.all (okV p d)
  | _, _ => false

def okC (p : Nat → Bool) : List (Option Value) → Bool
  | [] => true
  | none :: l => okC p l
  | some v :: l => match okV p 8 v with | true => okC p l | false => false

def okH (p : Nat → Bool) : Heap → Bool
  | [] => true
  | (_, b) :: h => match okC p b.cells with | true => okH p h | false => false

/-- Its names: of blocks, of globals. -/
def inB (g : Nat) (h : Heap) (k : Nat) : Bool := match Nat.blt k g with | true => true | false => hasB h k

def shutV (g : Nat) (V : Heap) (vs : List Value) : Bool := okH (inB g V) V && vs.all (okV (inB g V) 8)

/-- The names in a value, as bits. -/
def namesV : Nat → Value → Nat
  | 0, _ => 0
  | d + 1, v => match v with
    | .pointer (some a) => Nat.shiftLeft 1 a.block
    | .slice (some a) _ _ => Nat.shiftLeft 1 a.block
    | .iface _ v => namesV d v
    | .agg cs => cs.toList.foldr (fun v m => Nat.lor m (namesV d v)) 0
    | .tuple cs => cs.toList.foldr (fun v m => Nat.lor m (namesV d v)) 0
    | .func _ a b => Nat.lor (a.toList.foldr (fun v m => Nat.lor m (namesV d v)) 0) (b.toList.foldr (fun v m => Nat.lor m (namesV d v)) 0)
    | _ => 0
def namesC : List (Option Value) → Nat
  | [] => 0
  | none :: l => namesC l
  | some v :: l => Nat.lor (namesV 8 v) (namesC l)
def namesL : List Value → Nat
  | [] => 0
  | v :: l => Nat.lor (namesV 8 v) (namesL l)

/-- The names in the blocks of these names. -/
def reachH (m : Nat) : Heap → Nat
  | [] => 0
  | (k, b) :: h => match inL ⟨m⟩ k with | true => Nat.lor (namesC b.cells) (reachH m h) | false => reachH m h
def reachN (h : Heap) : Nat → Nat → Nat
  | 0, m => m
  | r + 1, m => match Nat.lor m (reachH m h) with | m' => (match Nat.beq m' m with | true => m | false => reachN h r m')

/-- The blocks at which an operation looks: its operands', and, where these lead to others, all that they lead to. -/
def footV (lo : Nat) (p : Nat → Bool) (h : Heap) (vs : List Value) : Heap :=
  match keepH (fun k => match opBlks k vs with | true => p k | false => false) h with
  | V => (match shutV lo V vs with
    | true => V
    | false => (match reachN h 12 (namesL vs) with | m => keepH (fun k => match inL ⟨m⟩ k with | true => p k | false => false) h))

def newIn (lo hi k : Nat) : Bool := match Nat.ble lo k with | true => Nat.blt k hi | false => false

def mergeH (V : Heap) (mw lo hi : Nat) (h old : Heap) : Heap :=
  keepH (fun k => match inW V mw k with | true => true | false => newIn lo hi k) h ++ keepH (fun k => match inW V mw k with | true => false | false => true) old

/-- One operation on these blocks. -/
noncomputable def oneK (E : Env) (call : FuncId → List Value → Heap → Nat → (Value → Heap → Nat → Nat → Prop) → Prop) (o : Oper) (an : Msk) (i : Nat) (rg : List (Nat × Nat × Nat)) (rs : Recs) (V : Heap) (s : St) (K : List (Nat × Nat × Nat) → Recs → St → Prop) : Prop :=
  match s with
  | ⟨tmps, heap, next, mw0, size, fn, df⟩ =>
  opK E call o (evalO tmps) V next fun v h n mw => match Nat.ble next mw with
    | true => chk (Nat.ble next n)
        (putK E ⟨tmps, heap, next, mw0, size, fn, df⟩ o v (keepH (newIn next n) h ++ heap) n big fun s1 => K (match Nat.beq next n with | true => rg | false => (i, next, n) :: rg) ((i, V, mw) :: rs) s1)
    | false => chk (Nat.ble next n && (Nat.ble E.P.globals.size E.low && (Nat.ble E.low mw && (Nat.ble E.low next && (shutV E.low V (o.op.operands.toList.map (evalO tmps)) && apartR an V mw rs)))))
        (putK E ⟨tmps, heap, next, mw0, size, fn, df⟩ o v (mergeH V mw next n h heap) n mw fun s1 => K (match Nat.beq next n with | true => rg | false => (i, next, n) :: rg) ((i, V, mw) :: rs) s1)

theorem oneK_eq (E : Env) (call : FuncId → List Value → Heap → Nat → (Value → Heap → Nat → Nat → Prop) → Prop) (o : Oper) (an : Msk) (i : Nat) (rg : List (Nat × Nat × Nat)) (rs : Recs) (V : Heap) (s : St) (K : List (Nat × Nat × Nat) → Recs → St → Prop) : oneK E call o an i rg rs V s K =
  opK E call o (evalO s.tmps) V s.next fun v h n mw => match Nat.ble s.next mw with
    | true => chk (Nat.ble s.next n)
        (putK E s o v (keepH (newIn s.next n) h ++ s.heap) n big fun s1 => K (match Nat.beq s.next n with | true => rg | false => (i, s.next, n) :: rg) ((i, V, mw) :: rs) s1)
    | false => chk (Nat.ble s.next n && (Nat.ble E.P.globals.size E.low && (Nat.ble E.low mw && (Nat.ble E.low s.next && (shutV E.low V (o.op.operands.toList.map (evalO s.tmps)) && apartR an V mw rs)))))
        (putK E s o v (mergeH V mw s.next n h s.heap) n mw fun s1 => K (match Nat.beq s.next n with | true => rg | false => (i, s.next, n) :: rg) ((i, V, mw) :: rs) s1) := by
  cases s; rfl

/-- One operation of a drawn region, by its class; each case by itself. -/
structure StepFn where
  run : Env → (FuncId → List Value → Heap → Nat → (Value → Heap → Nat → Nat → Prop) → Prop) → Bool → Nat → Msk → Oper → Nat → List (Nat × Nat × Nat) → Recs → List (Nat × Value) → Heap → Nat → Nat → Nat → FuncId → List (FuncId × List Value) → (List (Nat × Nat × Nat) → Recs → St → Prop) → Prop

noncomputable def stepC (c : Nat) : StepFn :=
  match c with
  | 0 => ⟨fun E call _ _ _ o _ rg rs tmps heap next mw0 size fn df C => opK E call o (evalO tmps) [] next fun v h n mw => chk (noBlk h && Nat.beq n next && Nat.ble n mw) (putK E ⟨tmps, heap, next, mw0, size, fn, df⟩ o v heap next big fun t => C rg rs t)⟩
  | 1 => ⟨fun E call _ n0 an o i rg rs tmps heap next mw0 size fn df C => (match o.op with
          | .load _ a => (match evalO tmps a with
            | .pointer (some ad) => (match getBlk heap ad.block with
              | some b => chk (visible an rg n0 ad.block && freeOf false an ad.block rs) (opK E call o (evalO tmps) [(ad.block, b)] next fun v _ n mw => chk (Nat.beq n next && Nat.ble n mw)
                  (putK E ⟨tmps, heap, next, mw0, size, fn, df⟩ o v heap next big fun t => C rg ((i, [(ad.block, b)], mw) :: rs) t))
              | none => False)
            | _ => False)
          | _ => False)⟩
  | 2 => ⟨fun E call _ n0 an o i rg rs tmps heap next mw0 size fn df C => (match o.op with
          | .store _ a _ => (match evalO tmps a with
            | .pointer (some ad) => (match getBlk heap ad.block with
              | some b => chk (visible an rg n0 ad.block && (freeOf false an ad.block rs && apartR an [(ad.block, b)] ad.block rs))
                (opK E call o (evalO tmps) heap next fun v h n mw => chk (Nat.beq n next && Nat.beq mw ad.block) (putK E ⟨tmps, heap, next, mw0, size, fn, df⟩ o v h next mw fun t => C rg ((i, [(ad.block, b)], ad.block) :: rs) t))
              | none => False)
            | _ => False)
          | _ => False)⟩
  | 4 => ⟨fun E call _ _ an o i rg rs tmps heap next mw0 size fn df C => oneK E call o an i rg rs [] ⟨tmps, heap, next, mw0, size, fn, df⟩ C⟩
  | 5 => ⟨fun E call _ n0 an o i rg rs tmps heap next mw0 size fn df C => oneK E call o an i rg rs (footV E.low (fun k => visible an rg n0 k && freeOf false an k rs) heap (o.op.operands.toList.map (evalO tmps))) ⟨tmps, heap, next, mw0, size, fn, df⟩
            C⟩
  | _ => ⟨fun E call W n0 an o i rg rs tmps heap next mw0 size fn df C => oneK E call o an i rg rs (keepH (fun k => visible an rg n0 k && freeOf W an k rs) heap) ⟨tmps, heap, next, mw0, size, fn, df⟩
            C⟩

noncomputable def drawK (E : Env) (call : FuncId → List Value → Heap → Nat → (Value → Heap → Nat → Nat → Prop) → Prop) (W : Bool) (ops : List Oper) (n0 : Nat) (an : List Msk)
    (l : List Oper) : Nat → List (Nat × Nat × Nat) → Recs → St → (St → Prop) → Prop :=
  List.rec (motive := fun _ => Nat → List (Nat × Nat × Nat) → Recs → St → (St → Prop) → Prop) (fun _ _ _ s K => K s)
    (fun o _ ih i rg rs s K => St.rec (motive := fun _ => Prop) (fun tmps heap next mw0 size fn df => wantK ops tmps o.guard
      ((stepC (clsOf o.op)).run E call W n0 (nthL an i) o i rg rs tmps heap next mw0 size fn df fun rg rs t => ih (i + 1) rg rs t K)
      (putSt ⟨tmps, heap, next, mw0, size, fn, df⟩ o.dst undef heap next big fun t => ih (i + 1) rg rs t K)) s) l

theorem drawK_cons (E : Env) (call : FuncId → List Value → Heap → Nat → (Value → Heap → Nat → Nat → Prop) → Prop) (W : Bool) (ops : List Oper) (n0 : Nat) (an : List Msk) (o : Oper) (rest : List Oper) (i : Nat) (rg : List (Nat × Nat × Nat)) (rs : Recs) (s : St) (K : St → Prop) :
    drawK E call W ops n0 an (o :: rest) i rg rs s K = wantK ops s.tmps o.guard
      (match clsOf o.op with
        | 0 => opK E call o (evalO s.tmps) [] s.next fun v h n mw => chk (noBlk h && Nat.beq n s.next && Nat.ble n mw) (putK E s o v s.heap s.next big fun t => drawK E call W ops n0 an rest (i + 1) rg rs t K)
        | 1 => (match o.op with
          | .load _ a => (match evalO s.tmps a with
            | .pointer (some ad) => (match getBlk s.heap ad.block with
              | some b => chk (visible (nthL an i) rg n0 ad.block && freeOf false (nthL an i) ad.block rs) (opK E call o (evalO s.tmps) [(ad.block, b)] s.next fun v _ n mw => chk (Nat.beq n s.next && Nat.ble n mw)
                  (putK E s o v s.heap s.next big fun t => drawK E call W ops n0 an rest (i + 1) rg ((i, [(ad.block, b)], mw) :: rs) t K))
              | none => False)
            | _ => False)
          | _ => False)
        | 2 => (match o.op with
          | .store _ a _ => (match evalO s.tmps a with
            | .pointer (some ad) => (match getBlk s.heap ad.block with
              | some b => chk (visible (nthL an i) rg n0 ad.block && (freeOf false (nthL an i) ad.block rs && apartR (nthL an i) [(ad.block, b)] ad.block rs))
                (opK E call o (evalO s.tmps) s.heap s.next fun v h n mw => chk (Nat.beq n s.next && Nat.beq mw ad.block) (putK E s o v h s.next mw fun t => drawK E call W ops n0 an rest (i + 1) rg ((i, [(ad.block, b)], ad.block) :: rs) t K))
              | none => False)
            | _ => False)
          | _ => False)
        | 4 => oneK E call o (nthL an i) i rg rs [] s fun rg rs t => drawK E call W ops n0 an rest (i + 1) rg rs t K
        | 5 => oneK E call o (nthL an i) i rg rs (footV E.low (fun k => visible (nthL an i) rg n0 k && freeOf false (nthL an i) k rs) s.heap (o.op.operands.toList.map (evalO s.tmps))) s
            fun rg rs t => drawK E call W ops n0 an rest (i + 1) rg rs t K
        | _ => oneK E call o (nthL an i) i rg rs (keepH (fun k => visible (nthL an i) rg n0 k && freeOf W (nthL an i) k rs) s.heap) s
            fun rg rs t => drawK E call W ops n0 an rest (i + 1) rg rs t K)
      (putSt s o.dst undef s.heap s.next big fun t => drawK E call W ops n0 an rest (i + 1) rg rs t K) := by
  obtain ⟨tmps, heap, next, mw0, size, fn, df⟩ := s
  refine congrArg (fun p => wantK ops tmps o.guard p (putSt ⟨tmps, heap, next, mw0, size, fn, df⟩ o.dst undef heap next big fun t => drawK E call W ops n0 an rest (i + 1) rg rs t K)) ?_
  generalize clsOf o.op = c
  match c with
  | 0 => rfl
  | 1 => rfl
  | 2 => rfl
  | 3 => rfl
  | 4 => rfl
  | 5 => rfl
  | n + 6 => rfl

noncomputable def drawnK (E : Env) (call : FuncId → List Value → Heap → Nat → (Value → Heap → Nat → Nat → Prop) → Prop) (W : Bool) (ops : List Oper) (s : St) (K : St → Prop) : Prop :=
  match s with
  | ⟨tmps, heap, next, mw, size, fn, df⟩ => drawK E call W ops next (ancL [] 0 ops) ops 0 [] [] ⟨tmps, heap, next, mw, size, fn, df⟩ K

theorem drawnK_eq (E : Env) (call : FuncId → List Value → Heap → Nat → (Value → Heap → Nat → Nat → Prop) → Prop) (W : Bool) (ops : List Oper) (s : St) (K : St → Prop) : drawnK E call W ops s K = drawK E call W ops s.next (ancL [] 0 ops) ops 0 [] [] s K := by
  cases s; rfl

/-- The slot that an operation's guard looks at. -/
def guardSlot (ops : List Oper) (o : Oper) : List Nat :=
  match o.guard with
  | some g => (match nth ops g.1 with
    | some p => (match p.dst with | some d => [d] | none => [])
    | none => [])
  | none => []
/-- The slots that operations read and none ahead of them writes. -/
def needs (ops : List Oper) : List Oper → List Nat
  | [] => []
  | o :: rest => (guardSlot ops o ++ tmpsOf o.op.operands.toList) ++ (needs ops rest).filter fun t => Bool.not (dstIs o t)
noncomputable def toldAll (E : Env) (tm : List (Nat × Value)) (l : List Nat) : Bool := match E.weak with | true => l.all (told tm) | false => true

/-- The number of a code's first region. -/
def firstId : Code → Nat
  | .region id _ _ => id
  | .seq a _ => firstId a
  | .cond _ a _ => firstId a
  | .block _ c => firstId c
  | .loop c => firstId c
  | _ => 0

def loopK (body : St → (Exit → St → Prop) → Prop) : Nat → St → (Exit → St → Prop) → Prop
  | 0, _, _ => False
  | n + 1, s, K => body s fun e s => match e with
    | .normal => loopK body n s K
    | e => K e s

/-- A code, by itself. -/
structure CodeFn where
  run : St → (Exit → St → Prop) → Prop

noncomputable def codeC (E : Env) (call : FuncId → List Value → Heap → Nat → (Value → Heap → Nat → Nat → Prop) → Prop) (c : Code) : CodeFn :=
  Code.rec (motive := fun _ => CodeFn) ⟨fun s K => K .normal s⟩
    (fun id ops draw => Bool.rec (motive := fun _ => CodeFn) ⟨fun s K => chk (toldAll E s.tmps (needs ops.toList ops.toList)) (opsK E call ops.toList ops.toList s fun s => K .normal s)⟩ ⟨fun s K => chk (toldAll E s.tmps (needs ops.toList ops.toList)) (drawnK E call (E.wild s.fn id) ops.toList s fun s => K .normal s)⟩ draw)
    (fun _ _ a b => ⟨fun s K => a.run s fun e s => match e with
      | .normal => b.run s K
      | e => K e s⟩)
    (fun c _ _ a b => ⟨fun s K => chk (toldAll E s.tmps (tmpsOf [c])) (match evalO s.tmps c with
      | .bool t => (match t with | true => a.run s K | false => b.run s K)
      | _ => False)⟩)
    (fun id _ c => ⟨fun s K => c.run s fun e s => match e with
      | .exit i => (match Nat.beq i id with | true => K .normal s | false => K (.exit i) s)
      | e => K e s⟩)
    (fun c r => ⟨fun s K => match E.loopP s.fn (firstId c) with
      | some T => T c s K
      | none => loopK r.run E.loops s K⟩)
    (fun _ _ _ _ _ _ => ⟨fun _ _ => False⟩) (fun id => ⟨fun s K => K (.exit id) s⟩) (fun _ _ => ⟨fun _ _ => False⟩) (fun _ => ⟨fun _ _ => False⟩) (fun _ => ⟨fun _ _ => False⟩) ⟨fun s K => K .ret s⟩ (fun _ => ⟨fun _ _ => False⟩) c

noncomputable def codeK (E : Env) (call : FuncId → List Value → Heap → Nat → (Value → Heap → Nat → Nat → Prop) → Prop) (c : Code) (s : St) (K : Exit → St → Prop) : Prop := (codeC E call c).run s K

theorem codeK_seq (E : Env) (call : FuncId → List Value → Heap → Nat → (Value → Heap → Nat → Nat → Prop) → Prop) (a b : Code) (s : St) (K : Exit → St → Prop) : codeK E call (.seq a b) s K = codeK E call a s fun e s => match e with
    | .normal => codeK E call b s K
    | e => K e s := rfl
theorem codeK_cond (E : Env) (call : FuncId → List Value → Heap → Nat → (Value → Heap → Nat → Nat → Prop) → Prop) (c : Operand) (a b : Code) (s : St) (K : Exit → St → Prop) : codeK E call (.cond c a b) s K = chk (toldAll E s.tmps (tmpsOf [c])) (match evalO s.tmps c with
    | .bool t => (match t with | true => codeK E call a s K | false => codeK E call b s K)
    | _ => False) := rfl
theorem codeK_block (E : Env) (call : FuncId → List Value → Heap → Nat → (Value → Heap → Nat → Nat → Prop) → Prop) (id : Nat) (c : Code) (s : St) (K : Exit → St → Prop) : codeK E call (.block id c) s K = codeK E call c s fun e s => match e with
    | .exit i => (match Nat.beq i id with | true => K .normal s | false => K (.exit i) s)
    | e => K e s := rfl
theorem codeK_loop (E : Env) (call : FuncId → List Value → Heap → Nat → (Value → Heap → Nat → Nat → Prop) → Prop) (c : Code) (s : St) (K : Exit → St → Prop) : codeK E call (.loop c) s K = match E.loopP s.fn (firstId c) with
    | some T => T c s K
    | none => loopK (codeK E call c) E.loops s K := rfl

def opdOk (g : Nat) : Operand → Bool
  | .const v => pureV 6 v
  | .global x => Nat.blt x g
  | _ => true

def operOk (g : Nat) (o : Oper) : Bool := o.op.operands.toList.all (opdOk g)

/-- Constants without addresses, globals that there are. -/
def codeOk (g : Nat) : Code → Bool
  | .region _ ops d => ops.toList.all (operOk g) && (match d with | true => drawStatic ops.toList (ancL [] 0 ops.toList) | false => true)
  | .seq a b => codeOk g a && codeOk g b
  | .cond c a b => opdOk g c && (codeOk g a && codeOk g b)
  | .block _ c => codeOk g c
  | .loop c => codeOk g c
  | _ => true

noncomputable def resO (E : Env) (s : St) : ResultVar → Option Value
  | .tmp t => (match toldAll E s.tmps [t] with | true => some (getTmp s.tmps t) | false => none)
  | .cell a t => (match toldAll E s.tmps [a] with
    | true => (match getTmp s.tmps a with
      | .pointer (some ad) => loadO E s.heap t ad
      | _ => none)
    | false => none)

noncomputable def allRes (E : Env) (s : St) : List ResultVar → Option (List Value)
  | [] => some []
  | r :: l => match resO E s r with
    | some v => match allRes E s l with
      | some vs => some (v :: vs)
      | none => none
    | none => none

noncomputable def resultsO (E : Env) (s : St) (rs : List ResultVar) : Option Value :=
  match allRes E s rs with
  | some [v] => some v
  | some vs => some (.tuple vs.toArray)
  | none => none

def numbered : Nat → List Value → List (Nat × Value)
  | _, [] => []
  | n, v :: l => (n, v) :: numbered (n + 1) l

/-- A function's code is right: reckoned here, or once for all. -/
def bodyOk (E : Env) (f : FuncId) (c : Code) : Bool := match E.sure f with | true => true | false => codeOk E.P.globals.size c

/-- A call that was put off. -/
noncomputable def deferredK (E : Env) (call : FuncId → List Value → Heap → Nat → (Value → Heap → Nat → Nat → Prop) → Prop) (f : FuncId) (fn : Func) (args : List Value) (h : Heap) (n : Nat) (K : St → Prop) : Prop :=
  match fn.body with
  | none => False
  | some c => chk (Nat.ble args.length fn.ntmps && bodyOk E f c) (codeK E call c { tmps := numbered 0 args, heap := h, next := n, mw := big, size := fn.ntmps, fn := f } fun e s =>
    match e with
    | .normal => (match s.df with | [] => (match resultsO E s fn.results.toList with | some _ => K s | none => False) | _ :: _ => False)
    | .ret => (match s.df with | [] => (match resultsO E s fn.results.toList with | some _ => K s | none => False) | _ :: _ => False)
    | _ => False)

noncomputable def leavesK (E : Env) (call : FuncId → List Value → Heap → Nat → (Value → Heap → Nat → Nat → Prop) → Prop) : List (FuncId × List Value) → St → (St → Prop) → Prop
  | [], s, K => K s
  | d :: ds, ⟨tmps, heap, next, mw, size, fn, _⟩, K => match E.P.funcs[d.1]? with
    | none => False
    | some f => deferredK E call d.1 f d.2 heap next fun t => (match t with
      | ⟨_, heap, next, mw2, _, _, _⟩ => minK mw mw2 fun m => leavesK E call ds ⟨tmps, heap, next, m, size, fn, []⟩ K)

theorem leavesK_cons (E : Env) (call : FuncId → List Value → Heap → Nat → (Value → Heap → Nat → Nat → Prop) → Prop) (d : FuncId × List Value) (ds : List (FuncId × List Value)) (s : St) (K : St → Prop) : leavesK E call (d :: ds) s K = match E.P.funcs[d.1]? with
    | none => False
    | some fn => deferredK E call d.1 fn d.2 s.heap s.next fun t => leavesK E call ds { tmps := s.tmps, heap := t.heap, next := t.next, mw := min s.mw t.mw, size := s.size, fn := s.fn } K := by
  cases s
  simp only [leavesK, minK_eq]

/-- What is left of a body: what was put off, and the state. -/
def restK (s : St) (K : List (FuncId × List Value) → St → Prop) : Prop := match s with
  | ⟨tmps, heap, next, mw, size, fn, df⟩ => K df ⟨tmps, heap, next, mw, size, fn, []⟩

theorem restK_eq (s : St) (K : List (FuncId × List Value) → St → Prop) : restK s K = K s.df { tmps := s.tmps, heap := s.heap, next := s.next, mw := s.mw, size := s.size, fn := s.fn } := by
  cases s; rfl

noncomputable def bodyK (E : Env) (call : FuncId → List Value → Heap → Nat → (Value → Heap → Nat → Nat → Prop) → Prop) (f : FuncId) (fn : Func) (args : List Value) (h : Heap) (n : Nat) (K : Value → St → Prop) : Prop :=
  match fn.body with
  | none => False
  | some c => chk (Nat.ble args.length fn.ntmps && bodyOk E f c) (codeK E call c { tmps := numbered 0 args, heap := h, next := n, mw := big, size := fn.ntmps, fn := f } fun e s =>
    match e with
    | .normal => restK s fun df s => leavesK E call df s fun s => (match resultsO E s fn.results.toList with | some v => K v s | none => False)
    | .ret => restK s fun df s => leavesK E call df s fun s => (match resultsO E s fn.results.toList with | some v => K v s | none => False)
    | _ => False)

/-- What a call leaves: of a result without addresses, where nothing old was written, the call's own blocks are let go. -/
noncomputable def leaveK (n : Nat) (v : Value) (s : St) (K : Value → Heap → Nat → Nat → Prop) : Prop :=
  match s with
  | ⟨_, heap, next, mw, _, _, _⟩ => match Nat.ble n mw with
    | true => (match pureV 6 v with
      | true => K v (keepBelow heap n) next mw
      | false => K v heap next mw)
    | false => K v heap next mw

theorem leaveK_eq (n : Nat) (v : Value) (s : St) (K : Value → Heap → Nat → Nat → Prop) : leaveK n v s K = match Nat.ble n s.mw with
  | true => (match pureV 6 v with
    | true => K v (keepBelow s.heap n) s.next s.mw
    | false => K v s.heap s.next s.mw)
  | false => K v s.heap s.next s.mw := by
  cases s; rfl

noncomputable def funcK (E : Env) : Nat → FuncId → List Value → Heap → Nat → (Value → Heap → Nat → Nat → Prop) → Prop
  | 0, _, _, _, _, _ => False
  | d + 1, f, args, h, n, K => match E.P.funcs[f]? with
    | none => False
    | some fn => bodyK E (funcK E d) f fn args h n fun v s => leaveK n v s K

end Go.Pe
