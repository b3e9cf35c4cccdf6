/-
  The evaluator: the model's code reckoned over an abstract heap, in continuation style: the result is a proposition. Plain Lean over the model; no program in sight.
-/
import Derived.Test.YtolniekeocnanaaGreatDoorPeA
namespace Go.Pe
open Go Go.RowKit

structure St where
  tmps : List (Nat × Value)
  heap : Heap
  next : Nat
  mw : Nat
  size : Nat
  fn : FuncId
  df : List (FuncId × List Value) := []

structure Env where
  P : Program
  isBool : TypeId → Bool
  oracle : FuncId → List Value → Heap → Nat → Option ((Value → Heap → Nat → Nat → Prop) → Prop)
  eqAgg : TypeId → List Value → List Value → Option Bool
  loops : Nat
  loopP : FuncId → Nat → Option (Code → St → (Exit → St → Prop) → Prop)
  guess : FuncId → Nat → Option Bool
  strF : List (Option Value) → Nat → ByteArray
  lax : Bool := false

def getTmp : List (Nat × Value) → Nat → Value
  | [], _ => undef
  | (k, v) :: l, n => match Nat.beq k n with | true => v | false => getTmp l n


def evalO (tmps : List (Nat × Value)) : Operand → Value
  | .tmp t => getTmp tmps t
  | .const v => v
  | .global g => .pointer (some ⟨g, 0, none⟩)
  | .func f => .func (.func f) #[] #[]

def und (E : Env) (t : TypeId) : Option TypeDesc := E.P.underlying t

def sizeT (E : Env) (t : TypeId) : Option Nat :=
  match E.P.info? t with
  | some i => some i.size
  | none => none

def zeroT (E : Env) (t : TypeId) : Option Value :=
  match Nat.blt t E.P.types.size with
  | true => (match E.P.info? t with
    | some i => i.zero
    | none => none)
  | false => none

def isAggT (E : Env) (t : TypeId) : Option Bool :=
  match und E t with
  | some (.struct _) => some true
  | some (.array _ _) => some true
  | some _ => some false
  | none => none

def takeN : List (Option Value) → Nat → Option (List Value)
  | _, 0 => some []
  | some v :: l, n + 1 => match takeN l n with
    | some r => some (v :: r)
    | none => none
  | _, _ + 1 => none

/-- n cells from an address on. -/
def cellsAt (h : Heap) (a : Addr) (n : Nat) : Option (List Value) :=
  match a.spot with
  | some _ => none
  | none => match getBlk h a.block with
    | some b => match b.iter with
      | none => takeN (b.cells.drop a.off) n
      | some _ => none
    | none => none

/-- Cells written from a place on; none, if there are not so many. -/
def putCells (l : List (Option Value)) (n : Nat) (vs : List Value) : Option (List (Option Value)) :=
  match Nat.ble (n + vs.length) l.length with
  | true => some (l.take n ++ vs.map some ++ l.drop (n + vs.length))
  | false => none

def listEq : List UInt8 → List UInt8 → Bool
  | [], [] => true
  | a :: x, b :: y => match Nat.beq a.toNat b.toNat with | true => listEq x y | false => false
  | _, _ => false

def listLess : List UInt8 → List UInt8 → Bool
  | _, [] => false
  | [], _ :: _ => true
  | a :: x, b :: y => match Nat.blt a.toNat b.toNat with
    | true => true
    | false => match Nat.beq a.toNat b.toNat with
      | true => listLess x y
      | false => false

def strEq (a b : ByteArray) : Bool := listEq a.data.toList b.data.toList
def strLess (a b : ByteArray) : Bool := listLess a.data.toList b.data.toList
def strCat (a b : ByteArray) : ByteArray := ⟨⟨a.data.toList ++ b.data.toList⟩⟩
def strCut (a : ByteArray) (l h : Nat) : ByteArray := ⟨⟨(a.data.toList.drop l).take (h - l)⟩⟩
def strLen (a : ByteArray) : Nat := a.data.toList.length

/-- A check that must come out true. -/
def chk (b : Bool) (p : Prop) : Prop := match b with | true => p | false => False

def intsK (op : BinOp) (k : IntKind) (a b : Int) (K : Value → Prop) : Prop :=
  match op with
  | .add => K (.int k (k.wrap (a + b)))
  | .sub => K (.int k (k.wrap (a - b)))
  | .mul => K (.int k (k.wrap (a * b)))
  | .quo => chk (!(b == 0)) (K (.int k (k.wrap (a.tdiv b))))
  | .rem => chk (!(b == 0)) (K (.int k (a.tmod b)))
  | .and => K (.int k (k.wrap (BitVec.ofInt k.bits a &&& BitVec.ofInt k.bits b).toNat))
  | .or => K (.int k (k.wrap (BitVec.ofInt k.bits a ||| BitVec.ofInt k.bits b).toNat))
  | .xor => K (.int k (k.wrap (BitVec.ofInt k.bits a ^^^ BitVec.ofInt k.bits b).toNat))
  | .andNot => K (.int k (k.wrap (BitVec.ofInt k.bits a &&& ~~~BitVec.ofInt k.bits b).toNat))
  | .eql => K (.bool (a == b))
  | .neq => K (.bool (a != b))
  | .lss => K (.bool (decide (a < b)))
  | .leq => K (.bool (decide (a ≤ b)))
  | .gtr => K (.bool (decide (a > b)))
  | .geq => K (.bool (decide (a ≥ b)))
  | _ => False

def strsK (op : BinOp) (a b : ByteArray) (K : Value → Prop) : Prop :=
  match op with
  | .add => chk (Nat.ble (strLen a + strLen b) 9223372036854775807) (K (.string (strCat a b)))
  | .eql => K (.bool (strEq a b))
  | .neq => K (.bool !(strEq a b))
  | .lss => K (.bool (strLess a b))
  | .leq => K (.bool (strLess a b || strEq a b))
  | .gtr => K (.bool !(strLess a b || strEq a b))
  | .geq => K (.bool !(strLess a b))
  | _ => False

def addrEq (a b : Addr) : Bool := Nat.beq a.block b.block && Nat.beq a.off b.off && a.spot.isNone && b.spot.isNone

/-- x == y; what may be asked: bools; against nil; one and the same pointer. -/
def equalO (E : Env) (t : TypeId) (x y : Value) : Option Bool :=
  match und E t, x, y with
  | some .bool, .bool a, .bool b => some (a == b)
  | some (.interface _), .nilIface, .iface _ _ => some false
  | some (.interface _), .iface _ _, .nilIface => some false
  | some (.pointer _), .pointer none, .pointer b => some b.isNone
  | some (.pointer _), .pointer (some _), .pointer none => some false
  | some (.pointer e), .pointer (some a), .pointer (some b) => match addrEq a b, sizeT E e with
    | true, some (_ + 1) => some true
    | _, _ => none
  | some (.slice _), .slice none _ _, .slice none _ _ => some true
  | some (.slice _), .slice none _ _, .slice (some _) _ _ => some false
  | some (.slice _), .slice (some _) _ _, .slice none _ _ => some false
  | some (.func _ _ _), .nilFunc, .nilFunc => some true
  | some (.func _ _ _), .nilFunc, .func _ _ _ => some false
  | some (.func _ _ _), .func _ _ _, .nilFunc => some false
  | some (.interface _), .iface u (.int k a), .iface u' (.int k' b) => (match Nat.beq u u', decide (k = k') with
    | true, true => (match E.P.info? u, und E u with
      | some i, some (.int _) => (match i.comparable with | true => some (a == b) | false => none)
      | _, _ => none)
    | _, _ => none)
  | _, _, _ => none

def isConst : Operand → Bool
  | .const _ => true
  | _ => false

def binK (E : Env) (op : BinOp) (t : TypeId) (xo yo : Operand) (x y : Value) (K : Value → Prop) : Prop :=
  match op with
  | .shl => match x, y with
    | .int k a, .int _ b => chk (decide (0 ≤ b)) (K (.int k (k.wrap (a * 2 ^ (min b.toNat k.bits)))))
    | _, _ => False
  | .shr => match x, y with
    | .int k a, .int _ b => chk (decide (0 ≤ b)) (K (.int k (a.fdiv (2 ^ (min b.toNat k.bits)))))
    | _, _ => False
  | op => match x, y with
    | .int k a, .int k' b => chk (decide (k = k')) (intsK op k a b K)
    | .string a, .string b => strsK op a b K
    | .agg a, .agg b => match op, E.eqAgg t a.toList b.toList with
      | .eql, some r => K (.bool r)
      | .neq, some r => K (.bool !r)
      | _, _ => False
    | .nilIface, .nilIface => match und E t with
      | some (.interface _) => (match op with
        | .eql => chk (isConst xo || isConst yo) (K (.bool true))
        | .neq => chk (isConst xo || isConst yo) (K (.bool false))
        | _ => False)
      | _ => False
    | x, y => match op, equalO E t x y with
      | .eql, some r => K (.bool r)
      | .neq, some r => K (.bool !r)
      | _, _ => False

def unK (op : UnOp) (x : Value) (K : Value → Prop) : Prop :=
  match op, x with
  | .neg, .int k n => K (.int k (k.wrap (0 - n)))
  | .not, .bool b => K (.bool !b)
  | _, _ => False

def mkBlk (cs : List Value) (e : TypeId) : Blk := { cells := cs.map some, elem := e, own := true, room := 0, iter := none }

/-- A part of an aggregate: n cells from a place on, of a type. -/
def partO (E : Env) (t : TypeId) (cs : Array Value) (off : Nat) : Option Value :=
  match isAggT E t with
  | some true => match sizeT E t with
    | some s => some (.agg (cs.extract off (off + s)))
    | none => none
  | some false => cs[off]?
  | none => none

def repeatL (z : List Value) : Nat → List Value
  | 0 => []
  | n + 1 => z ++ repeatL z n

/-! ### One operation -/

def loadO (E : Env) (h : Heap) (t : TypeId) (a : Addr) : Option Value :=
  match isAggT E t with
  | some true => match sizeT E t with
    | some s => match cellsAt h a s with
      | some cs => some (.agg cs.toArray)
      | none => none
    | none => none
  | some false => match cellsAt h a 1 with
    | some [v] => some v
    | _ => none
  | none => none

def byteAt (l : List UInt8) (i : Nat) : UInt8 := match nth l i with | some b => b | none => 0

def allStr : List (Option Value) → Bool
  | [] => true
  | c :: l => match c with
    | some v => (match v with | .string _ => allStr l | _ => false)
    | none => false

def allInt (k : IntKind) : List (Option Value) → Bool
  | [] => true
  | c :: l => match c with
    | some v => (match v with | .int k' _ => (match decide (k' = k) with | true => allInt k l | false => false) | _ => false)
    | none => false

def strOf : Option (Option Value) → ByteArray
  | some c => (match c with
    | some v => (match v with | .string s => s | _ => ⟨#[]⟩)
    | none => ⟨#[]⟩)
  | none => ⟨#[]⟩

def intOf : Option (Option Value) → Int
  | some c => (match c with
    | some v => (match v with | .int _ n => n | _ => 0)
    | none => 0)
  | none => 0

def strAt (l : List (Option Value)) (i : Nat) : ByteArray := strOf (nth l i)
def intAt (l : List (Option Value)) (i : Nat) : Int := intOf (nth l i)

/-- An address some cells further on, whatever the number is. -/
def addO (a : Addr) (n : Nat) : Addr := match a.spot with | none => ⟨a.block, a.off + n, none⟩ | some _ => a.add n

/-- The cells of a block of two cells or more. -/
def manyO (h : Heap) (ad : Addr) : Option (List (Option Value)) :=
  match ad.spot with
  | some _ => none
  | none => match getBlk h ad.block with
    | none => none
    | some b => match b.iter with
      | some _ => none
      | none => match b.cells with
        | [] => none
        | c :: l => match l with
          | [] => none
          | d :: r => some (c :: d :: r)

/-- A block that may not be written. -/
def fixedO (h : Heap) (ad : Addr) : Bool :=
  match getBlk h ad.block with
  | some b => !b.own
  | none => false

def loadK (E : Env) (h : Heap) (t : TypeId) (ad : Addr) (K : Value → Prop) : Prop :=
  match manyO h ad with
  | some cells => (match und E t with
    | some .string => (match allStr cells with
      | true => chk (Nat.blt ad.off cells.length) (K (.string (E.strF cells ad.off)))
      | false => (match loadO E h t ad with | some v => K v | none => False))
    | some (.int k) => (match fixedO h ad && allInt k cells with
      | true => chk (Nat.blt ad.off cells.length) (K (.int k (intAt cells ad.off)))
      | false => (match loadO E h t ad with | some v => K v | none => False))
    | _ => (match loadO E h t ad with | some v => K v | none => False))
  | none => (match loadO E h t ad with | some v => K v | none => False)

/-- The heap with cells written at an address. -/
def storeO (h : Heap) (a : Addr) (vs : List Value) : Option Heap :=
  match a.spot with
  | some _ => none
  | none => match getBlk h a.block with
    | none => none
    | some b => match b.own, b.iter with
      | true, none => match putCells b.cells a.off vs, vs.all (·.oneCell') with
        | some cs, true => some (setBlk h a.block { cells := cs, elem := b.elem, own := true, room := b.room, iter := none })
        | _, _ => none
      | _, _ => none

/-- So, whether or not what is written are single cells. -/
def storeL (h : Heap) (a : Addr) (vs : List Value) : Option Heap :=
  match a.spot with
  | some _ => none
  | none => match getBlk h a.block with
    | none => none
    | some b => match b.own, b.iter with
      | true, none => match putCells b.cells a.off vs with
        | some cs => some (setBlk h a.block { cells := cs, elem := b.elem, own := true, room := b.room, iter := none })
        | none => none
      | _, _ => none

theorem storeL_eq {h h' : Heap} {a : Addr} {vs : List Value} (hv : vs.all (·.oneCell') = true) (hs : storeL h a vs = some h') : storeO h a vs = some h' := by
  unfold storeL at hs
  unfold storeO
  split at hs
  · cases hs
  · split at hs
    · cases hs
    · split at hs
      · split at hs
        · rename_i hc
          rw [hv, hc]
          exact hs
        · cases hs
      · cases hs

/-- Cells written; where what is written is not known, it is asked that they be single cells. -/
def storeK (E : Env) (h : Heap) (a : Addr) (vs : List Value) (K : Heap → Prop) : Prop :=
  match E.lax with
  | false => (match storeO h a vs with | some h' => K h' | none => False)
  | true => vs.all (·.oneCell') = true ∧ (match storeL h a vs with | some h' => K h' | none => False)

theorem storeK_of {E : Env} {h : Heap} {a : Addr} {vs : List Value} {K : Heap → Prop} (hk : storeK E h a vs K) : ∃ h', storeO h a vs = some h' ∧ K h' := by
  unfold storeK at hk
  split at hk
  · split at hk
    · rename_i h' hs
      exact ⟨h', hs, hk⟩
    · exact hk.elim
  · obtain ⟨hv, hk⟩ := hk
    split at hk
    · rename_i h' hs
      exact ⟨h', storeL_eq hv hs, hk⟩
    · exact hk.elim

/-- Where a slice begins that is cut l elements behind another one. -/
def cutA (cap l z : Nat) (a : Option Addr) : Option Addr := match Nat.beq cap l with | true => a | false => a.map fun x => x.add (l * z)

def natOf : Value → Option Int
  | .int _ n => some n
  | _ => none

/-- A bound of a slice expression: a number from 0 up to another one. -/
def boundK (v : Option Value) (dflt top : Nat) (K : Nat → Prop) : Prop :=
  match v with
  | none => K dflt
  | some v => match natOf v with
    | some n => chk (decide (0 ≤ n) && decide (n ≤ top)) (K n.toNat)
    | none => False

def fieldsOf (E : Env) (t : TypeId) : Array Field :=
  match und E t with
  | some (.struct fs) => fs
  | _ => #[]

def methodOf (E : Env) (t : TypeId) (name : String) : Option FuncId :=
  match E.P.info? t with
  | none => none
  | some i => match i.methods.find? (·.name == name) with
    | none => none
    | some m => match m.path.toList, m.func with
      | [], some (f, false) => match und E t with
        | some (.pointer _) => none
        | some _ => some f
        | none => none
      | _, _ => none

def minL (k : IntKind) : Int → List Value → Option Value
  | a, [] => some (.int k a)
  | a, .int _ b :: l => minL k (match decide (b < a) with | true => b | false => a) l
  | _, _ :: _ => none

def maxL (k : IntKind) : Int → List Value → Option Value
  | a, [] => some (.int k a)
  | a, .int _ b :: l => maxL k (match decide (b > a) with | true => b | false => a) l
  | _, _ :: _ => none

def bytesOf : List Value → Option (List UInt8)
  | [] => some []
  | .int .u8 n :: l => match bytesOf l with
    | some r => some (UInt8.ofNat n.toNat :: r)
    | none => none
  | _ :: _ => none

def ofBytes (l : List UInt8) : List Value := l.map fun b => .int .u8 b.toNat

/-- What is appended: the cells of a slice, or of a string's bytes. -/
def sourceO (h : Heap) (size : Nat) : Value → Option (Nat × List Value)
  | .slice none n _ => match n with | 0 => some (0, []) | _ => none
  | .slice (some a) n _ => match cellsAt h a (n * size) with
    | some cs => some (n, cs)
    | none => none
  | .string s => match size with | 1 => some (strLen s, ofBytes s.data.toList) | _ => none
  | _ => none

def roomBlk (cs : List Value) (e : TypeId) (size : Nat) : Blk := { cells := cs.map some, elem := e, own := true, room := size, iter := none }

def srcT : Option TypeDesc → Bool
  | some (.slice _) => true
  | some .string => true
  | _ => false

def appendK (E : Env) (h : Heap) (n : Nat) (t u : TypeId) (s x : Value) (K : Value → Heap → Nat → Nat → Prop) : Prop :=
  match und E t, srcT (und E u) with
  | some (.slice e), true => match E.P.info? e, s with
    | some i, .slice base len cap => match i.zero, i.size, sourceO h i.size x with
      | some z, sz + 1, some (m, new) => chk (Nat.ble ((len + m) * i.bytes) 140737488355328 && Nat.ble (len + m) 140737488355328 && Nat.beq z.cells.size (sz + 1) && new.all (·.oneCell'))
        (match Nat.ble big cap with
          | true => match base with
            | some a => match a.spot, a.off, getBlk h a.block with
              | none, 0, some b => match b.own, b.iter, takeN b.cells (len * (sz + 1)), Nat.beq b.room (sz + 1), Nat.beq cap big, Nat.beq b.elem e with
                | true, none, some old, true, true, true => K (.slice (some ⟨n, 0, none⟩) (len + m) big) ((n, roomBlk (old ++ new) e (sz + 1)) :: dropBlk h a.block) (n + 1) a.block
                | _, _, _, _, _, _ => False
              | _, _, _ => False
            | none => False
          | false => match Nat.ble (len + m) cap with
            | true => match base with
              | none => match new with | [] => K (.slice none (len + m) cap) h n big | _ => False
              | some a => match a.spot, new with
                | none, [] => K (.slice (some a) (len + m) cap) h n big
                | none, new => match storeO h ⟨a.block, a.off + len * (sz + 1), none⟩ new with
                  | some h' => K (.slice (some a) (len + m) cap) h' n a.block
                  | none => False
                | _, _ => False
            | false => match sourceO h (sz + 1) (.slice base len cap) with
              | some (_, old) => K (.slice (some ⟨n, 0, none⟩) (len + m) big) ((n, roomBlk (old ++ new) e (sz + 1)) :: h) (n + 1) big
              | none => False)
      | _, _, _ => False
    | _, _ => False
  | _, _ => False

def builtinK (E : Env) (h : Heap) (n : Nat) (b : Builtin) (ts : List TypeId) (args : List Value) (K : Value → Heap → Nat → Nat → Prop) : Prop :=
  match b with
  | .len => match ts, args with
    | [t], [x] => match und E t, x with
      | some .string, .string s => K (.int .i64 (strLen s)) h n big
      | some (.slice _), .slice _ m _ => K (.int .i64 m) h n big
      | some (.array m _), _ => K (.int .i64 m) h n big
      | _, _ => False
    | _, _ => False
  | .cap => match ts, args with
    | [t], [.slice _ _ m] => match und E t with | some (.slice _) => chk (Nat.blt m big) (K (.int .i64 m) h n big) | _ => False
    | _, _ => False
  | .min => match args with
    | .int k a :: l => match minL k a l with | some v => K v h n big | none => False
    | _ => False
  | .max => match args with
    | .int k a :: l => match maxL k a l with | some v => K v h n big | none => False
    | _ => False
  | .append => match ts, args with
    | [t, u], [s, x] => appendK E h n t u s x K
    | _, _ => False
  | .copy => match ts, args with
    | [t, _], [.slice _ dl _, .slice _ sl _] => match und E t with
      | some (.slice e) => (match E.P.info? e with
        | some i => chk (Nat.beq i.size 1 && (Nat.beq sl 0 || Nat.beq dl 0)) (K (.int .i64 0) h n big)
        | none => False)
      | _ => False
    | _, _ => False
  | _ => False

def convK (E : Env) (h : Heap) (n : Nat) (src dst : TypeId) (x : Value) (K : Value → Heap → Nat → Nat → Prop) : Prop :=
  match und E src, und E dst with
  | some _, some (.int k) => match x with | .int _ a => K (.int k (k.wrap a)) h n big | _ => False
  | some s, some .string => match x with
    | .int _ a => K (.string (Utf8.encode a)) h n big
    | .string s => K (.string s) h n big
    | .slice none _ _ => match s with
      | .slice e => match und E e with | some (.int .u8) => K (.string ⟨#[]⟩) h n big | _ => False
      | _ => False
    | .slice (some a) len _ => match s with
      | .slice e => match und E e with
        | some (.int .u8) => match cellsAt h a len with
          | some cs => match bytesOf cs with
            | some l => K (.string ⟨l.toArray⟩) h n big
            | none => False
          | none => False
        | _ => False
      | _ => False
    | _ => False
  | _, _ => False

/-- What a closure is called with: its arguments, and what it has caught. -/
def addCaps (l : List Value) : List Value → List Value
  | [] => l
  | c :: cs => l ++ (c :: cs)

/-- A call of a function: what an oracle tells of it, else its body. -/
def callK (E : Env) (call : FuncId → List Value → Heap → Nat → (Value → Heap → Nat → Nat → Prop) → Prop) (g : FuncId) (args : List Value) (h : Heap) (n : Nat) (K : Value → Heap → Nat → Nat → Prop) : Prop :=
  match E.oracle g args h n with
  | some T => T K
  | none => call g args h n K

def opK (E : Env) (call : FuncId → List Value → Heap → Nat → (Value → Heap → Nat → Nat → Prop) → Prop) (o : Oper) (ρ : Operand → Value) (h : Heap) (n : Nat)
    (K : Value → Heap → Nat → Nat → Prop) : Prop :=
  match o.op with
  | .move x => K (ρ x) h n big
  | .assign x => K (ρ x) h n big
  | .pick c a b => match ρ c with
    | .bool t => (match t with | true => K (ρ a) h n big | false => K (ρ b) h n big)
    | _ => False
  | .alloc e => match zeroT E e with
    | some z => K (.pointer (some ⟨n, 0, none⟩)) ((n, mkBlk z.cells.toList e) :: h) (n + 1) big
    | none => False
  | .box e x => K (.pointer (some ⟨n, 0, none⟩)) ((n, mkBlk (ρ x).cells.toList e) :: h) (n + 1) big
  | .build t parts => chk (Nat.blt t E.P.types.size) (match E.P.built t (parts.toList.map fun p => (p.1, ρ p.2)) with
    | some cs => K (.agg cs) h n big
    | none => False)
  | .buildSlice t len parts => match Nat.beq len 0, parts.toList with
    | true, [] => (match und E t with
      | some (.slice e) => (match sizeT E e with
        | some _ => K (.slice (some ⟨n, 0, none⟩) 0 0) ((n, mkBlk [] e) :: h) (n + 1) big
        | none => False)
      | _ => False)
    | _, ps => match und E t with
      | some (.slice e) => match sizeT E e, zeroT E e with
        | some (sz + 1), some z => chk (Nat.ble (len * (sz + 1)) 16777216 && Nat.beq z.cells.size (sz + 1) && Nat.blt 0 len)
            (match Instr.fill (fun i => some (i * (sz + 1), (sz + 1))) (repeatL z.cells.toList len).toArray (ps.map fun p => (p.1, ρ p.2)) with
            | some cs => K (.slice (some ⟨n, 0, none⟩) len len) ((n, mkBlk cs.toList e) :: h) (n + 1) big
            | none => False)
        | _, _ => False
      | _ => False
  | .load t a => match ρ a with
    | .pointer (some ad) => loadK E h t ad fun v => K v h n big
    | _ => False
  | .store t a x => match ρ a with
    | .pointer (some ad) => match sizeT E t with
      | some s => match Nat.beq (ρ x).cells.size s with
        | true => storeK E h ad (ρ x).cells.toList fun h' => K undef h' n ad.block
        | false => False
      | none => False
    | _ => False
  | .nilCheck x => match ρ x with
    | .pointer (some a) => K (.pointer (some a)) h n big
    | .iface t v => K (.iface t v) h n big
    | _ => False
  | .binOp op t x y _ => binK E op t x y (ρ x) (ρ y) (fun v => K v h n big)
  | .unOp op _ x => unK op (ρ x) (fun v => K v h n big)
  | .convert src dst x => convK E h n src dst (ρ x) K
  | .makeInterface t x => match und E t with
    | some (.interface _) => False
    | some _ => K (.iface t (ρ x)) h n big
    | none => False
  | .makeSlice t l c => match und E t, ρ l, ρ c with
    | some (.slice e), .int .i64 a, .int .i64 b => match E.P.info? e with
      | some i => match i.zero with
        | some z => chk (decide (0 ≤ a) && decide (a ≤ b) && decide (b ≤ 1048576) && Nat.ble i.bytes 1048576 && Nat.beq z.cells.size i.size && Nat.blt e E.P.types.size)
            (K (.slice (some ⟨n, 0, none⟩) a.toNat b.toNat) ((n, mkBlk (repeatL z.cells.toList b.toNat) e) :: h) (n + 1) big)
        | none => False
      | none => False
    | _, _, _ => False
  | .slice t x lo hi mx => match mx with
    | some _ => False
    | none => match und E t, ρ x with
      | some .string, .string s => boundK (hi.map ρ) (strLen s) (strLen s) fun m => boundK (lo.map ρ) 0 m fun l => K (.string (strCut s l m)) h n big
      | some (.slice e), .slice a len cap => match sizeT E e with
        | some z => match Nat.ble big cap with
          | true => match a with
            | some ad => match getBlk h ad.block, ad.off with
              | some b, 0 => chk (Nat.beq cap big && Nat.beq b.room z && Nat.blt 0 z && Nat.ble (len * z) b.cells.length && b.iter.isNone)
                  (boundK (hi.map ρ) len len fun m => boundK (lo.map ρ) 0 m fun l => match l with | 0 => K (.slice a m cap) h n big | _ + 1 => False)
              | _, _ => False
            | none => False
          | false => boundK (hi.map ρ) len cap fun m => boundK (lo.map ρ) 0 m fun l =>
              K (.slice (cutA cap l z a) (m - l) (cap - l)) h n big
        | none => False
      | some (.array len e), .pointer (some a) => match sizeT E e with
        | some z => chk (Nat.blt len big) (boundK (hi.map ρ) len len fun m => boundK (lo.map ρ) 0 m fun l =>
            K (.slice (cutA len l z (some a)) (m - l) (len - l)) h n big)
        | none => False
      | _, _ => False
  | .fieldAddr s x f => match ρ x, (fieldsOf E s)[f]? with
    | .pointer (some a), some fl => match sizeT E fl.type with
      | some (_ + 1) => K (.pointer (some (a.add fl.offset))) h n big
      | _ => False
    | _, _ => False
  | .field t x f => match ρ x, (fieldsOf E t)[f]? with
    | .agg cs, some fl => match partO E fl.type cs fl.offset with | some v => K v h n big | none => False
    | _, _ => False
  | .indexAddr t x ix => match und E t, ρ x, ρ ix with
    | some (.array len e), .pointer (some a), .int _ i => match sizeT E e with
      | some z => chk (decide (0 ≤ i) && decide (i < len)) (K (.pointer (some (addO a (i.toNat * z)))) h n big)
      | none => False
    | some (.slice e), .slice (some a) len _, .int _ i => match sizeT E e with
      | some z => chk (decide (0 ≤ i) && decide (i < len)) (K (.pointer (some (addO a (i.toNat * z)))) h n big)
      | none => False
    | _, _, _ => False
  | .index t x ix => match und E t, ρ x, ρ ix with
    | some (.array len e), .agg cs, .int _ i => match sizeT E e with
      | some z => chk (decide (0 ≤ i) && decide (i < len)) (match partO E e cs (i.toNat * z) with | some v => K v h n big | none => False)
      | none => False
    | some .string, .string s, .int _ i => chk (decide (0 ≤ i) && decide (i < strLen s)) (K (.int .u8 (byteAt s.data.toList i.toNat).toNat) h n big)
    | _, _, _ => False
  | .range t x => match und E t, ρ x with
    | some .string, .string s => K (.pointer (some ⟨n, 0, none⟩)) ((n, { cells := [], elem := 0, own := true, room := 0, iter := some (s, 0) }) :: h) (n + 1) big
    | _, _ => False
  | .next it isS => match isS, ρ it with
    | true, .pointer (some ⟨r, 0, none⟩) => match getBlk h r with
      | some b => match b.iter with
        | some (s, pos) => match Nat.blt pos (strLen s) with
          | true => K (.tuple #[.bool true, .int .i64 pos, .int .i32 (Utf8.decode s pos).1]) (setBlk h r { b with iter := some (s, pos + (Utf8.decode s pos).2) }) n r
          | false => K (.tuple #[.bool false]) h n big
        | none => False
      | none => False
    | _, _ => False
  | .typeAssert x _ t ok => match und E t, ρ x with
    | some (.interface _), _ => False
    | some _, .nilIface => match ok, zeroT E t with | true, some z => K (.tuple #[z, .bool false]) h n big | _, _ => False
    | some _, .iface u v => match Nat.beq u t with
      | true => match ok with | true => K (.tuple #[v, .bool true]) h n big | false => K v h n big
      | false => match ok, zeroT E t with | true, some z => K (.tuple #[z, .bool false]) h n big | _, _ => False
    | _, _ => False
  | .extract x ix => match ρ x with
    | .tuple vs => match vs[ix]? with | some v => K v h n big | none => False
    | _ => False
  | .call c => match c.callee with
    | .value f => match ρ f with
      | .func (.func g) ⟨[]⟩ ⟨caps⟩ => callK E call g (addCaps (c.args.toList.map ρ) caps) h n K
      | _ => False
    | .invoke r name => match ρ r with
      | .iface t v => match methodOf E t name with
        | some g => callK E call g (v :: c.args.toList.map ρ) h n K
        | none => False
      | _ => False
    | .builtin b => builtinK E h n b c.argTypes.toList (c.args.toList.map ρ) K
  | .makeFunc fn first captured => match fn, first.toList with
    | .func g, [] => K (.func (.func g) ⟨[]⟩ ⟨captured.toList.map ρ⟩) h n big
    | _, _ => False
  | _ => False

/-! ### Regions, code, functions -/

def putSt (s : St) (dst : Option Tmp) (v : Value) (h : Heap) (n mw : Nat) (K : St → Prop) : Prop :=
  match dst with
  | none => K { tmps := s.tmps, heap := h, next := n, mw := min s.mw mw, size := s.size, fn := s.fn, df := s.df }
  | some d => chk (Nat.blt d s.size) (K { tmps := (d, v) :: s.tmps, heap := h, next := n, mw := min s.mw mw, size := s.size, fn := s.fn, df := s.df })

def guessO (E : Env) (f : FuncId) (dst : Option Tmp) : Option Bool :=
  match dst with
  | none => none
  | some d => E.guess f d

/-- A bool is parted at once (or is asked to be what it is guessed to be), so that what stands in a slot is true or false. -/
def putK (E : Env) (s : St) (o : Oper) (v : Value) (h : Heap) (n mw : Nat) (K : St → Prop) : Prop :=
  match E.isBool o.type with
  | true => match v with
    | .bool b => (match guessO E s.fn o.dst with
      | some t => b = t ∧ putSt s o.dst (.bool t) h n mw K
      | none => (match b with | true => putSt s o.dst (.bool true) h n mw K | false => putSt s o.dst (.bool false) h n mw K))
    | v => putSt s o.dst v h n mw K
  | false => putSt s o.dst v h n mw K

def guardV (ops : List Oper) (tmps : List (Nat × Value)) (j : Nat) : Option Bool :=
  match nth ops j with
  | some o => match o.dst with
    | some d => match getTmp tmps d with
      | .bool b => some b
      | _ => none
    | none => none
  | none => none

def wantK (ops : List Oper) (tmps : List (Nat × Value)) (g : Option (Nat × Bool)) (yes no : Prop) : Prop :=
  match g with
  | none => yes
  | some (j, want) => match guardV ops tmps j with
    | some true => (match want with | true => yes | false => no)
    | some false => (match want with | true => no | false => yes)
    | none => no

/-- A call put off: of a function value, without arguments. -/
def deferK (ρ : Operand → Value) (c : Call) (K : FuncId × List Value → Prop) : Prop :=
  match c.callee, c.args.toList with
  | .value f, [] => match ρ f with
    | .func (.func g) ⟨[]⟩ ⟨caps⟩ => K (g, caps)
    | _ => False
  | _, _ => False

def opsK (E : Env) (call : FuncId → List Value → Heap → Nat → (Value → Heap → Nat → Nat → Prop) → Prop) (ops : List Oper) : List Oper → St → (St → Prop) → Prop
  | [], s, K => K s
  | o :: rest, s, K => wantK ops s.tmps o.guard
      (match o.op with
        | .defer c => deferK (evalO s.tmps) c fun d => putSt { s with df := d :: s.df } o.dst undef s.heap s.next big fun s => opsK E call ops rest s K
        | _ => opK E call o (evalO s.tmps) s.heap s.next fun v h n mw => putK E s o v h n mw fun s => opsK E call ops rest s K)
      (putSt s o.dst undef s.heap s.next big fun s => opsK E call ops rest s K)

/-! ### Regions whose order is drawn -/

/-- Some of a region's operations, as a number's bits. -/
structure Msk where
  m : Nat

def inL (a : Msk) (n : Nat) : Bool := Nat.beq (Nat.land (Nat.shiftRight a.m n) 1) 1

def orM (a b : Msk) : Msk := ⟨Nat.lor a.m b.m⟩
def bitM (n : Nat) : Msk := ⟨Nat.shiftLeft 1 n⟩

def nthL : List Msk → Nat → Msk
  | [], _ => ⟨0⟩
  | x :: _, 0 => x
  | _ :: l, n + 1 => nthL l n

/-- What is listed ahead of an operation in every order. -/
def ancOf (acc : List Msk) (i : Nat) : List Edge → Msk
  | [] => ⟨0⟩
  | e :: l => match Region.binds .any e with
    | true => (match Nat.blt e.on i with
      | true => orM (bitM e.on) (orM (nthL acc e.on) (ancOf acc i l))
      | false => ancOf acc i l)
    | false => ancOf acc i l

def ancL : List Msk → Nat → List Oper → List Msk
  | acc, _, [] => acc
  | acc, i, o :: l => ancL (acc ++ [ancOf acc i o.after.toList]) (i + 1) l

/-- 0: no memory; 1: a load; 2: a store; 3: what else there is. -/
def clsOf : Op → Nat
  | .load _ _ => 1
  | .store _ _ _ => 2
  | .alloc _ | .box _ _ | .buildSlice _ _ _ | .makeSlice _ _ _ | .range _ _ | .next _ _ => 3
  | .call c => match c.callee with
    | .builtin .append => 3
    | .builtin .copy => 3
    | .builtin _ => 0
    | _ => 3
  | .convert _ _ _ => 3
  | .slice _ _ _ _ _ => 3
  | _ => 0

def allI : (Nat → Oper → Bool) → Nat → List Oper → Bool
  | _, _, [] => true
  | p, i, o :: l => match p i o with | true => allI p (i + 1) l | false => false

def tmpsOf : List Operand → List Nat
  | [] => []
  | .tmp t :: l => t :: tmpsOf l
  | _ :: l => tmpsOf l

def dstIs (o : Oper) (t : Nat) : Bool := match o.dst with | some d => Nat.beq d t | none => false

/-- What of a region does not hang on what is reckoned. -/
def drawStatic (ops : List Oper) (an : List Msk) : Bool :=
  allI (fun i o =>
    o.after.toList.all (fun e => match Region.binds .any e with | true => Nat.blt e.on i | false => true) &&
    (tmpsOf o.op.operands.toList).all (fun t => allI (fun j p => match dstIs p t with | true => inL (nthL an i) j || Nat.beq i j || inL (nthL an j) i | false => true) 0 ops) &&
    (match o.guard with | some (g, _) => inL (nthL an i) g | none => true) &&
    (match o.dst with | some d => allI (fun j p => match dstIs p d with | true => Nat.beq i j | false => true) 0 ops | none => true) &&
    (match clsOf o.op with
      | 0 => true
      | 2 => allI (fun j p => match Nat.blt j i with | true => (match clsOf p.op with | 0 => true | 1 => true | _ => inL (nthL an i) j) | false => true) 0 ops
      | _ => allI (fun j p => match Nat.blt j i with | true => (match clsOf p.op with | 2 => false | _ => true) | false => true) 0 ops)) 0 ops

/-- Names that operations of a list have given: (operation, from, to). -/
def owned (anc : Msk) : List (Nat × Nat × Nat) → Nat → Bool
  | [], _ => false
  | (j, lo, hi) :: r, k => match Nat.ble lo k && Nat.blt k hi with | true => inL anc j | false => owned anc r k

def visible (anc : Msk) (rg : List (Nat × Nat × Nat)) (n0 k : Nat) : Bool := match Nat.blt k n0 with | true => true | false => owned anc rg k

def keepH (p : Nat → Bool) : Heap → Heap
  | [] => []
  | (k, b) :: h => match p k with | true => (k, b) :: keepH p h | false => keepH p h

def noBlk : Heap → Bool
  | [] => true
  | _ :: _ => false

def apartL (anc : Msk) (b : Nat) : List (Nat × Nat) → Bool
  | [] => true
  | (j, c) :: l => match inL anc j || !(Nat.beq b c) with | true => apartL anc b l | false => false

def drawK (E : Env) (call : FuncId → List Value → Heap → Nat → (Value → Heap → Nat → Nat → Prop) → Prop) (ops : List Oper) (n0 : Nat) (an : List Msk) :
    List Oper → Nat → List (Nat × Nat × Nat) → List (Nat × Nat) → St → (St → Prop) → Prop
  | [], _, _, _, s, K => K s
  | o :: rest, i, rg, ld, s, K => wantK ops s.tmps o.guard
      (match clsOf o.op with
        | 0 => opK E call o (evalO s.tmps) [] s.next fun v h n mw => chk (noBlk h && Nat.beq n s.next && Nat.ble n mw) (putK E s o v s.heap s.next big fun s => drawK E call ops n0 an rest (i + 1) rg ld s K)
        | 1 => (match o.op with
          | .load _ a => (match evalO s.tmps a with
            | .pointer (some ad) => (match getBlk s.heap ad.block with
              | some b => chk (visible (nthL an i) rg n0 ad.block) (opK E call o (evalO s.tmps) [(ad.block, b)] s.next fun v _ n mw => chk (Nat.beq n s.next && Nat.ble n mw)
                  (putK E s o v s.heap s.next big fun s => drawK E call ops n0 an rest (i + 1) rg ((i, ad.block) :: ld) s K))
              | none => False)
            | _ => False)
          | _ => False)
        | 2 => (match o.op with
          | .store _ a _ => (match evalO s.tmps a with
            | .pointer (some ad) => chk (visible (nthL an i) rg n0 ad.block && apartL (nthL an i) ad.block ld)
                (opK E call o (evalO s.tmps) s.heap s.next fun v h n mw => chk (Nat.beq n s.next && Nat.beq mw ad.block) (putK E s o v h s.next mw fun s => drawK E call ops n0 an rest (i + 1) rg ld s K))
            | _ => False)
          | _ => False)
        | _ => opK E call o (evalO s.tmps) (keepH (visible (nthL an i) rg n0) s.heap) s.next fun v h n mw => chk (Nat.ble s.next n && Nat.ble s.next mw)
            (putK E s o v (keepH (Nat.ble s.next) h ++ s.heap) n big fun s1 => drawK E call ops n0 an rest (i + 1) (match Nat.beq s.next n with | true => rg | false => (i, s.next, n) :: rg) ld s1 K))
      (putSt s o.dst undef s.heap s.next big fun s => drawK E call ops n0 an rest (i + 1) rg ld s K)

def drawnK (E : Env) (call : FuncId → List Value → Heap → Nat → (Value → Heap → Nat → Nat → Prop) → Prop) (ops : List Oper) (s : St) (K : St → Prop) : Prop :=
  chk (drawStatic ops (ancL [] 0 ops)) (drawK E call ops s.next (ancL [] 0 ops) ops 0 [] [] s K)

/-- The number of a code's first region. -/
def firstId : Code → Nat
  | .region id _ _ => id
  | .seq a _ => firstId a
  | .cond _ a _ => firstId a
  | .block _ c => firstId c
  | .loop c => firstId c
  | _ => 0

def loopK (body : St → (Exit → St → Prop) → Prop) : Nat → St → (Exit → St → Prop) → Prop
  | 0, _, _ => False
  | n + 1, s, K => body s fun e s => match e with
    | .normal => loopK body n s K
    | e => K e s

def codeK (E : Env) (call : FuncId → List Value → Heap → Nat → (Value → Heap → Nat → Nat → Prop) → Prop) : Code → St → (Exit → St → Prop) → Prop
  | .skip, s, K => K .normal s
  | .region _ ops false, s, K => opsK E call ops.toList ops.toList s fun s => K .normal s
  | .region _ ops true, s, K => drawnK E call ops.toList s fun s => K .normal s
  | .seq a b, s, K => codeK E call a s fun e s => match e with
    | .normal => codeK E call b s K
    | e => K e s
  | .cond c a b, s, K => match evalO s.tmps c with
    | .bool t => (match t with | true => codeK E call a s K | false => codeK E call b s K)
    | _ => False
  | .block id c, s, K => codeK E call c s fun e s => match e with
    | .exit i => (match Nat.beq i id with | true => K .normal s | false => K (.exit i) s)
    | e => K e s
  | .loop c, s, K => (match E.loopP s.fn (firstId c) with
    | some T => T c s K
    | none => loopK (codeK E call c) E.loops s K)
  | .exit id, s, K => K (.exit id) s
  | .ret, s, K => K .ret s
  | _, _, _ => False

def opdOk (g : Nat) : Operand → Bool
  | .const v => pureV 6 v
  | .global x => Nat.blt x g
  | _ => true

def operOk (g : Nat) (o : Oper) : Bool := o.op.operands.toList.all (opdOk g)

/-- Constants without addresses, globals that there are. -/
def codeOk (g : Nat) : Code → Bool
  | .region _ ops _ => ops.toList.all (operOk g)
  | .seq a b => codeOk g a && codeOk g b
  | .cond c a b => opdOk g c && (codeOk g a && codeOk g b)
  | .block _ c => codeOk g c
  | .loop c => codeOk g c
  | _ => true

def resO (E : Env) (s : St) : ResultVar → Option Value
  | .tmp t => some (getTmp s.tmps t)
  | .cell a t => match getTmp s.tmps a with
    | .pointer (some ad) => loadO E s.heap t ad
    | _ => none

def allRes (E : Env) (s : St) : List ResultVar → Option (List Value)
  | [] => some []
  | r :: l => match resO E s r with
    | some v => match allRes E s l with
      | some vs => some (v :: vs)
      | none => none
    | none => none

def resultsO (E : Env) (s : St) (rs : List ResultVar) : Option Value :=
  match allRes E s rs with
  | some [v] => some v
  | some vs => some (.tuple vs.toArray)
  | none => none

def numbered : Nat → List Value → List (Nat × Value)
  | _, [] => []
  | n, v :: l => (n, v) :: numbered (n + 1) l

/-- A call that was put off. -/
def deferredK (E : Env) (call : FuncId → List Value → Heap → Nat → (Value → Heap → Nat → Nat → Prop) → Prop) (f : FuncId) (fn : Func) (args : List Value) (h : Heap) (n : Nat) (K : St → Prop) : Prop :=
  match fn.body with
  | none => False
  | some c => chk (Nat.ble args.length fn.ntmps && codeOk E.P.globals.size c) (codeK E call c { tmps := numbered 0 args, heap := h, next := n, mw := big, size := fn.ntmps, fn := f } fun e s =>
    match e with
    | .normal => (match s.df with | [] => (match resultsO E s fn.results.toList with | some _ => K s | none => False) | _ :: _ => False)
    | .ret => (match s.df with | [] => (match resultsO E s fn.results.toList with | some _ => K s | none => False) | _ :: _ => False)
    | _ => False)

def leavesK (E : Env) (call : FuncId → List Value → Heap → Nat → (Value → Heap → Nat → Nat → Prop) → Prop) : List (FuncId × List Value) → St → (St → Prop) → Prop
  | [], s, K => K s
  | d :: ds, s, K => match E.P.funcs[d.1]? with
    | none => False
    | some fn => deferredK E call d.1 fn d.2 s.heap s.next fun t => leavesK E call ds { tmps := s.tmps, heap := t.heap, next := t.next, mw := min s.mw t.mw, size := s.size, fn := s.fn } K

def bodyK (E : Env) (call : FuncId → List Value → Heap → Nat → (Value → Heap → Nat → Nat → Prop) → Prop) (f : FuncId) (fn : Func) (args : List Value) (h : Heap) (n : Nat) (K : Value → St → Prop) : Prop :=
  match fn.body with
  | none => False
  | some c => chk (Nat.ble args.length fn.ntmps && codeOk E.P.globals.size c) (codeK E call c { tmps := numbered 0 args, heap := h, next := n, mw := big, size := fn.ntmps, fn := f } fun e s =>
    match e with
    | .normal => leavesK E call s.df { tmps := s.tmps, heap := s.heap, next := s.next, mw := s.mw, size := s.size, fn := s.fn } fun s => (match resultsO E s fn.results.toList with | some v => K v s | none => False)
    | .ret => leavesK E call s.df { tmps := s.tmps, heap := s.heap, next := s.next, mw := s.mw, size := s.size, fn := s.fn } fun s => (match resultsO E s fn.results.toList with | some v => K v s | none => False)
    | _ => False)

/-- What a call leaves: of a result without addresses, where nothing old was written, the call's own blocks are let go. -/
def leaveK (n : Nat) (v : Value) (s : St) (K : Value → Heap → Nat → Nat → Prop) : Prop :=
  match Nat.ble n s.mw with
  | true => (match pureV 6 v with
    | true => K v (keepBelow s.heap n) s.next s.mw
    | false => K v s.heap s.next s.mw)
  | false => K v s.heap s.next s.mw

def funcK (E : Env) : Nat → FuncId → List Value → Heap → Nat → (Value → Heap → Nat → Nat → Prop) → Prop
  | 0, _, _, _, _, _ => False
  | d + 1, f, args, h, n, K => match E.P.funcs[f]? with
    | none => False
    | some fn => bodyK E (funcK E d) f fn args h n fun v s => leaveK n v s K

end Go.Pe
