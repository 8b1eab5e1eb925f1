/- An abstract executor for the translated programs: abstract values, memory and operations. Conditions: none; definitions only. -/
import Derived.Orders
import Derived.Laws.Sem
import Derived.KernelRfl
import Derived.Below
import Derived.Laws.Cells
import Derived.Laws.StructEq
import Derived.Laws.Entries
import Derived.Laws.BytesArg
set_option linter.unusedVariables false
namespace Ax
open Go

/-- Data without names: scalars, and slices whose elements are never written. -/
inductive D where
  | bool (b : Bool)
  | int (k : IntKind) (n : Int)
  | str (s : List UInt8)
  | strs (l : List (List UInt8))
  | ints (k : IntKind) (l : List Int)
  | recs (m n : Nat) (c : Nat → Nat → D)

/-- Abstract values. -/
inductive A where
  | d (x : D)
  | nilptr | nilsl | niliface | nilfunc | nilmap
  | ptr (n off : Nat)
  | pel (n i j : Nat)
  | dpt (x : D) (i j : Nat)
  | sl (n off len : Nat)
  | func (f : Nat) (cap : List A)
  | iface (t : Nat) (v : A)
  | mp (n : Nat)
  | agg (l : List A)
  | tup (l : List A)
  | any

/-- Abstract objects: one block each. -/
inductive O where
  | cells (t : Nat) (l : List A)
  | row (t : Nat) (x : D)
  | vals (t m : Nat) (l : List A)

abbrev Heap := List (Nat × O)

def kIdx : IntKind → Nat
  | .i8 => 0 | .i16 => 1 | .i32 => 2 | .i64 => 3 | .u8 => 4 | .u16 => 5 | .u32 => 6 | .u64 => 7
def kEq (a b : IntKind) : Bool := Nat.beq (kIdx a) (kIdx b)
theorem kEq_iff {a b : IntKind} : kEq a b = true ↔ a = b := by cases a <;> cases b <;> decide


def hget : Heap → Nat → Option O
  | [], _ => none
  | (k, o) :: r, n => bif Nat.beq k n then some o else hget r n
def hset : Heap → Nat → O → Heap
  | [], n, o => [(n, o)]
  | (k, o') :: r, n, o => bif Nat.beq k n then (k, o) :: r else (k, o') :: hset r n o
def hdel : Heap → Nat → Heap
  | [], _ => []
  | (k, o) :: r, n => bif Nat.beq k n then r else (k, o) :: hdel r n

/-! ### slices of data -/
/-- Cells of one element. -/
def D.wid : D → Nat
  | .recs m _ _ => m
  | _ => 1
/-- The number of elements. -/
def D.cnt : D → Nat
  | .strs l => l.length
  | .ints _ l => l.length
  | .recs _ n _ => n
  | _ => 0
/-- Cell j of element i. -/
def D.at : D → Nat → Nat → D
  | .strs l, i, _ => .str (l.getD i [])
  | .ints k l, i, _ => .int k (l.getD i 0)
  | .recs _ _ c, i, j => c i j
  | x, _, _ => x
def D.isSl : D → Bool
  | .strs _ | .ints _ _ | .recs _ _ _ => true
  | _ => false
/-- The elements from lo on, so many. -/
def D.cut : D → Nat → Nat → D
  | .strs l, lo, n => .strs ((l.drop lo).take n)
  | .ints k l, lo, n => .ints k ((l.drop lo).take n)
  | .recs m _ c, lo, n => .recs m n fun i j => c (lo + i) j
  | x, _, _ => x
/-- One behind the other. -/
def D.app : D → D → Option D
  | .strs l, .strs r => some (.strs (l ++ r))
  | .ints k l, .ints k' r => bif kEq k k' then some (.ints k (l ++ r)) else none
  | .ints .u8 l, .str s => some (.ints .u8 (l ++ s.map fun b => (b.toNat : Int)))
  | .recs m n c, .recs m' n' c' => bif Nat.beq m m' then some (.recs m (n + n') fun i j => bif Nat.blt i n then c i j else c' (i - n) j) else none
  | _, _ => none
/-- Element i, cell j, written. -/
def D.upd : D → Nat → Nat → D → Option D
  | .strs l, i, _, .str s => some (.strs (l.set i s))
  | .ints k l, i, _, .int k' n => bif kEq k k' then some (.ints k (l.set i n)) else none
  | .recs m n c, i, j, v => some (.recs m n fun i' j' => bif Nat.beq i' i && Nat.beq j' j then v else c i' j')
  | _, _, _, _ => none

def undA : A := .tup []

/-! ### constants -/
def ofVal1 : Value → A
  | .bool b => .d (.bool b)
  | .int k n => .d (.int k n)
  | .string s => bif Nat.ble s.size 4611686018427387904 then .d (.str s.data.toList) else .any
  | .pointer none => .nilptr
  | .slice none 0 0 => .nilsl
  | .nilIface => .niliface
  | .nilFunc => .nilfunc
  | .map none => .nilmap
  | _ => .any
def ofVal : Value → A
  | .agg cs => bif cs.toList.all Value.oneCell' then .agg (cs.toList.map ofVal1) else .any
  | v => ofVal1 v

def cellsA : A → List A
  | .agg l => l
  | v => [v]

/-! ### types -/
section
variable (P : Program)
def agO (t : Nat) : Option Bool := match P.underlying t with
  | some (.struct _) => some true
  | some (.array _ _) => some true
  | some _ => some false
  | none => none
def szO (t : Nat) : Option Nat := (P.info? t).map (·.size)
def byT (t : Nat) : Nat := ((P.info? t).map (·.bytes)).getD 0
def zeroA (t : Nat) : Option A := (P.info? t).bind fun i => i.zero.map ofVal
def elT (t : Nat) : Option Nat := match P.underlying t with
  | some (.slice e) => some e
  | _ => none
def fields (t : Nat) : List Field := match P.underlying t with
  | some (.struct fs) => fs.toList
  | _ => []

/-! ### operations that only give a value -/
def bitsI (op : BinOp) (k : IntKind) (x y : Int) : Int :=
  let a := BitVec.ofInt k.bits x
  let b := BitVec.ofInt k.bits y
  k.wrap (match op with
    | .and => a &&& b
    | .or => a ||| b
    | .xor => a ^^^ b
    | _ => a &&& ~~~b).toNat
def byteAt (s : List UInt8) (i : Nat) : Int := ((s.getD i 0).toNat : Int)
def strLt (a b : List UInt8) : Bool := Op.bytesLess a b

def intOp (op : BinOp) (k : IntKind) (a b : Int) : Option (Option Prop × A) := match op with
  | .add => some (none, .d (.int k (k.wrap (a + b))))
  | .sub => some (none, .d (.int k (k.wrap (a - b))))
  | .mul => some (none, .d (.int k (k.wrap (a * b))))
  | .quo => some (some (¬ b = 0), .d (.int k (k.wrap (a.tdiv b))))
  | .rem => some (some (¬ b = 0), .d (.int k (a.tmod b)))
  | .and => some (none, .d (.int k (bitsI .and k a b)))
  | .or => some (none, .d (.int k (bitsI .or k a b)))
  | .xor => some (none, .d (.int k (bitsI .xor k a b)))
  | .andNot => some (none, .d (.int k (bitsI .andNot k a b)))
  | .eql => some (none, .d (.bool (decide (a = b))))
  | .neq => some (none, .d (.bool (!decide (a = b))))
  | .lss => some (none, .d (.bool (decide (a < b))))
  | .leq => some (none, .d (.bool (decide (a ≤ b))))
  | .gtr => some (none, .d (.bool (decide (b < a))))
  | .geq => some (none, .d (.bool (decide (b ≤ a))))
  | _ => none
def shiftOp (op : BinOp) (k : IntKind) (a b : Int) : Option (Option Prop × A) := match op with
  | .shl => some (some (0 ≤ b), .d (.int k (k.wrap (a * 2 ^ (min b.toNat k.bits)))))
  | .shr => some (some (0 ≤ b), .d (.int k (a.fdiv (2 ^ (min b.toNat k.bits)))))
  | _ => none
def strOp (op : BinOp) (a b : List UInt8) : Option (Option Prop × A) := match op with
  | .add => some (some (a.length + b.length ≤ 4611686018427387904), .d (.str (a ++ b)))
  | .eql => some (none, .d (.bool (decide (a = b))))
  | .neq => some (none, .d (.bool (!decide (a = b))))
  | .lss => some (none, .d (.bool (strLt a b)))
  | .leq => some (none, .d (.bool (strLt a b || decide (a = b))))
  | .gtr => some (none, .d (.bool (!(strLt a b || decide (a = b)))))
  | .geq => some (none, .d (.bool (!strLt a b)))
  | _ => none
/-- Are two values the same: scalars and nils. -/
def eqA1 : A → A → Option Bool
  | .d (.bool a), .d (.bool b) => some (a == b)
  | .d (.int k a), .d (.int k' b) => bif kEq k k' then some (decide (a = b)) else none
  | .d (.str a), .d (.str b) => some (decide (a = b))
  | .nilptr, .nilptr => some true
  | .nilptr, .ptr _ _ => some false
  | .ptr _ _, .nilptr => some false
  | .nilptr, .pel _ _ _ => some false
  | .pel _ _ _, .nilptr => some false
  | .nilsl, .nilsl => some true
  | .nilmap, .nilmap => some true
  | .mp _, .nilmap => some false
  | .nilmap, .mp _ => some false
  | .niliface, .niliface => some true
  | .iface _ _, .niliface => some false
  | .niliface, .iface _ _ => some false
  | .nilfunc, .nilfunc => some true
  | .func _ _, .nilfunc => some false
  | _, _ => none
/-- Does a type's '==' fit what eqA1 says of two values? -/
def fitsEq (x y : A) : Option TypeDesc → Bool
  | some .bool => match x, y with
    | .d (.bool _), .d (.bool _) => true
    | _, _ => false
  | some (.int _) => match x, y with
    | .d (.int _ _), .d (.int _ _) => true
    | _, _ => false
  | some .string => match x, y with
    | .d (.str _), .d (.str _) => true
    | _, _ => false
  | some (.pointer _) => match x, y with
    | .nilptr, _ => true
    | _, .nilptr => true
    | _, _ => false
  | some (.slice _) => match x, y with
    | .nilsl, .nilsl => true
    | _, _ => false
  | some (.map _ _) => match x, y with
    | .nilmap, _ => true
    | _, .nilmap => true
    | _, _ => false
  | some (.interface _) => match x, y with
    | .niliface, _ => true
    | _, .niliface => true
    | _, _ => false
  | some (.func _ _ _) => match x, y with
    | .nilfunc, _ => true
    | _, .nilfunc => true
    | _, _ => false
  | _ => false
def partA (t : Nat) (l : List A) (off : Nat) : Option A := match agO P t, szO P t with
  | some true, some sz => bif Nat.ble (off + sz) l.length then some (.agg ((l.drop off).take sz)) else none
  | some false, some _ => l[off]?
  | _, _ => none
/-- '==' at a type, d deep. -/
def eqV (stood : Nat → Bool) : Nat → Nat → A → A → Option Bool
  | 0, _, _, _ => none
  | d + 1, t, .agg xs, .agg ys => match P.underlying t with
    | some (.struct fs) => bif stood t then none else eqFs (fun f => match partA P f.type xs f.offset, partA P f.type ys f.offset with
        | some a, some b => eqV stood d f.type a b
        | _, _ => none) fs.toList
    | _ => none
  | _ + 1, t, x, y => bif fitsEq x y (P.underlying t) then eqA1 x y else none
where
  eqFs (g : Field → Option Bool) : List Field → Option Bool
  | [] => some true
  | f :: fs => bif f.name == "_" then none else match g f with
    | some r => (match fs with
      | [] => some r
      | _ => match eqFs g fs with
        | some s => some (r && s)
        | none => none)
    | none => none
def isAggA : A → Bool
  | .agg _ => true
  | _ => false
def isConst : Operand → Bool
  | .const _ => true
  | _ => false
def knownE : A → Bool
  | .any => false
  | .tup _ => false
  | _ => true
/-- What the guard of '==' wants: no two nil interface values but where one is written out; no aggregate with interface values in it. -/
def guardEq (t : Nat) (x y : A) (cst : Bool) : Bool := match x, y with
  | .agg _, .agg _ => !(P.eqGuardType P.depth t)
  | .niliface, .niliface => cst
  | x, y => knownE x && knownE y
def eqOp (op : BinOp) (t : Nat) (x y : A) (cst : Bool) : Option (Option Prop × A) := match op with
  | .eql => bif guardEq P t x y cst then (eqV P P.stoodInHeld 8 t x y).map fun b => (none, .d (.bool b)) else none
  | .neq => bif guardEq P t x y cst then (eqV P P.stoodInHeld 8 t x y).map fun b => (none, .d (.bool (!b))) else none
  | _ => none
def binA (op : BinOp) (t : Nat) (x y : A) (cst : Bool) : Option (Option Prop × A) := match x, y with
  | .d (.int k a), .d (.int k' b) => match op with
    | .shl => shiftOp .shl k a b
    | .shr => shiftOp .shr k a b
    | op => bif kEq k k' then intOp op k a b else none
  | .d (.str a), .d (.str b) => strOp op a b
  | x, y => eqOp P op t x y cst
def unA (op : UnOp) (x : A) : Option A := match op, x with
  | .not, .d (.bool b) => some (.d (.bool (!b)))
  | .neg, .d (.int k n) => some (.d (.int k (k.wrap (0 - n))))
  | .xor, .d (.int k n) => some (.d (.int k (bitsI .xor k (if k.signed then -1 else k.max) n)))
  | _, _ => none

/-- The value of one or the other. -/
def pickA (c : Bool) (x y : A) : A := match x, y with
  | .d (.bool a), .d (.bool b) => .d (.bool (bif c then a else b))
  | .d (.int k a), .d (.int k' b) => bif kEq k k' then .d (.int k (bif c then a else b)) else .any
  | .d (.str a), .d (.str b) => .d (.str (bif c then a else b))
  | x, y => match c with
    | true => x
    | false => y

def sumB (l : List Nat) : Nat := l.foldl (· + ·) 0

/-- Cells [off, off + n) of a row's element i, as one value. -/
def rdEl (ag : Bool) (sz : Nat) (x : D) (i j : Nat) : A :=
  bif ag then .agg ((List.range sz).map fun q => .d (x.at i (j + q))) else .d (x.at i j)
def rdCells (ag : Bool) (sz : Nat) (l : List A) (off : Nat) : A :=
  bif ag then .agg ((l.drop off).take sz) else l.getD off .any

def loadA (t : Nat) (hp : Heap) (x : A) : Option (Option Prop × A) := match agO P t, szO P t with
  | some ag, some sz => match x with
    | .ptr n off => match hget hp n with
      | some (.cells _ l) => bif Nat.ble (off + (bif ag then sz else 1)) l.length then some (none, rdCells ag sz l off) else none
      | _ => none
    | .pel n i j => match hget hp n with
      | some (.row _ y) => bif Nat.ble (j + (bif ag then sz else 1)) y.wid then some (some (i < y.cnt), rdEl ag sz y i j) else none
      | some (.vals _ m l) => bif Nat.ble (i * m + j + (bif ag then sz else 1)) l.length then some (none, rdCells ag sz l (i * m + j)) else none
      | _ => none
    | .dpt y i j => bif Nat.ble (j + (bif ag then sz else 1)) y.wid then some (none, rdEl ag sz y i j) else none
    | _ => none
  | _, _ => none

def fieldA (t : Nat) (x : A) (f : Nat) : Option A := match (fields P t)[f]? with
  | some fd => match szO P fd.type with
    | some (_ + 1) => match x with
      | .ptr n off => some (.ptr n (off + fd.offset))
      | .pel n i j => some (.pel n i (j + fd.offset))
      | .dpt y i j => some (.dpt y i (j + fd.offset))
      | _ => none
    | _ => none
  | none => none

/-- The cells of an element of a row. -/
def widH (hp : Heap) (n : Nat) : Option Nat := match hget hp n with
  | some (.row _ y) => some y.wid
  | some (.vals _ m _) => some m
  | _ => none
def sameN (a : Option Nat) (b : Option Nat) : Bool := match a, b with
  | some x, some y => Nat.beq x y
  | _, _ => false
def indexAddrA (t : Nat) (hp : Heap) (x ix : A) : Option (Option Prop × A) := match ix with
  | .d (.int _ i) => match P.underlying t with
    | some (.slice e) => match x with
      | .sl n off len => bif sameN (widH hp n) (szO P e) then some (some (0 ≤ i ∧ i < len), .pel n (off + i.toNat) 0) else none
      | .d y => bif y.isSl && sameN (some y.wid) (szO P e) then some (some (0 ≤ i ∧ i < y.cnt), .dpt y i.toNat 0) else none
      | _ => none
    | some (.array len e) => match x with
      | .ptr n off => match szO P e with
        | some sz => some (some (0 ≤ i ∧ i < len), .ptr n (off + i.toNat * sz))
        | none => none
      | .pel n k 0 => bif sameN (widH hp n) (szO P e) then some (some (0 ≤ i ∧ i < len), .pel n (k + i.toNat) 0) else none
      | _ => none
    | _ => none
  | _ => none

def fieldVal (t : Nat) (x : A) (f : Nat) : Option A := match (fields P t)[f]?, x with
  | some fd, .agg l => partA P fd.type l fd.offset
  | _, _ => none
def indexVal (t : Nat) (x ix : A) : Option (Option Prop × A) := match ix, x with
  | .d (.int _ i), .d (.str s) => match P.underlying t with
    | some .string => some (some (0 ≤ i ∧ i < s.length), .d (.int .u8 (byteAt s i.toNat)))
    | _ => none
  | .d (.int _ i), .agg l => match P.underlying t with
    | some (.array len e) => match szO P e with
      | some sz => (partA P e l (i.toNat * sz)).map fun v => (some (0 ≤ i ∧ i < len), v)
      | none => none
    | _ => none
  | _, _ => none

/-- A bound of a slice expression. -/
def bndA : Option A → Int → Option Int
  | none, d => some d
  | some (.d (.int _ n)), _ => some n
  | _, _ => none
def sliceA (t : Nat) (hp : Heap) (x : A) (lo hi : Option A) : Option (Option Prop × A) := match P.underlying t with
  | some .string => match x with
    | .d (.str s) => match bndA lo 0, bndA hi s.length with
      | some l, some h => some (some (0 ≤ l ∧ l ≤ h ∧ h ≤ s.length), .d (.str ((s.drop l.toNat).take (h.toNat - l.toNat))))
      | _, _ => none
    | _ => none
  | some (.slice e) => match x with
    | .sl n off len => match bndA lo 0, bndA hi len with
      | some l, some h => bif sameN (widH hp n) (szO P e) then some (some (0 ≤ l ∧ l ≤ h ∧ h ≤ len), .sl n (off + l.toNat) (h.toNat - l.toNat)) else none
      | _, _ => none
    | .d y => match bndA lo 0, bndA hi y.cnt with
      | some l, some h => bif y.isSl && sameN (some y.wid) (szO P e) then some (some (0 ≤ l ∧ l ≤ h ∧ h ≤ y.cnt), .d (y.cut l.toNat (h.toNat - l.toNat))) else none
      | _, _ => none
    | .nilsl => match bndA lo 0, bndA hi 0, szO P e with
      | some l, some h, some _ => some (some (l = 0 ∧ h = 0), .nilsl)
      | _, _, _ => none
    | _ => none
  | _ => none

def lenA (t : Nat) (x : A) : Option A := match P.underlying t with
  | some .string => match x with
    | .d (.str s) => some (.d (.int .i64 s.length))
    | _ => none
  | some (.slice _) => match x with
    | .sl _ _ len => some (.d (.int .i64 len))
    | .nilsl => some (.d (.int .i64 0))
    | .d y => bif y.isSl then some (.d (.int .i64 y.cnt)) else none
    | _ => none
  | some (.array n _) => some (.d (.int .i64 n))
  | some (.map _ _) => match x with
    | .nilmap => some (.d (.int .i64 0))
    | _ => none
  | _ => none
def minA : List A → Option A
  | [.d (.int k a), .d (.int k' b)] => bif kEq k k' then some (.d (.int k (if b < a then b else a))) else none
  | _ => none
def maxA : List A → Option A
  | [.d (.int k a), .d (.int k' b)] => bif kEq k k' then some (.d (.int k (if a < b then b else a))) else none
  | _ => none

def strOfInts (l : List Int) : List UInt8 := l.map fun n => UInt8.ofNat n.toNat
/-- What a slice value holds. -/
def viewSl (hp : Heap) : A → Option (Option Prop × D)
  | .d y => bif y.isSl then some (none, y) else none
  | .sl n off len => match hget hp n with
    | some (.row _ y) => some (some (off + len ≤ y.cnt), y.cut off len)
    | _ => none
  | _ => none
def convB (hp : Heap) : A → Option (Option Prop × A)
  | .nilsl => some (none, .d (.str []))
  | x => match viewSl hp x with
    | some (p, .ints .u8 l) => some (p, .d (.str (strOfInts l)))
    | _ => none
def convS : A → Option (Option Prop × A)
  | .d (.str b) => some (none, .d (.str b))
  | _ => none
def convA (src dst : Nat) (hp : Heap) (x : A) : Option (Option Prop × A) := match P.underlying src with
  | none => none
  | some s => match P.underlying dst with
    | some (.int k) => match x with
      | .d (.int _ n) => some (none, .d (.int k (k.wrap n)))
      | _ => none
    | some .string => match s with
      | .slice e => match P.underlying e with
        | some (.int .u8) => convB hp x
        | _ => none
      | _ => convS x
    | _ => none

/-- Is it known how many cells it has? -/
def known : A → Bool
  | .any => false
  | .tup _ => false
  | _ => true
/-- One part laid into the cells of a composite. -/
def lay (place : Nat → Option (Nat × Nat)) : List A → List (Nat × A) → Option (List A)
  | cs, [] => some cs
  | cs, (i, v) :: r => match place i with
    | some (off, sz) => bif known v && Nat.beq (cellsA v).length sz && Nat.ble (off + sz) cs.length
      then lay place (cs.take off ++ cellsA v ++ cs.drop (off + sz)) r else none
    | none => none
def placesA : List Field → Option (List (Nat × Nat))
  | [] => some []
  | f :: r => match szO P f.type, placesA r with
    | some s, some l => some ((f.offset, s) :: l)
    | _, _ => none
def buildA (t : Nat) (parts : List (Nat × A)) : Option A := match zeroA P t with
  | some (.agg z) => match P.underlying t with
    | some (.struct fs) => match placesA P fs.toList with
      | some pl => (lay (fun i => pl[i]?) z parts).map .agg
      | none => none
    | some (.array _ e) => match szO P e with
      | some sz => (lay (fun i => some (i * sz, sz)) z parts).map .agg
      | none => none
    | _ => none
  | _ => none
end
end Ax

set_option linter.unusedVariables false
namespace Ax
open Go

/-- A way in two: kept as it is where the test isn't known. -/
def ifB (b : Bool) (X Y : Prop) : Prop := match b with
  | true => X
  | false => Y
def impT (g : Bool) (p : Prop) : Prop := match g with
  | true => p
  | false => True
theorem ifB_iff {b : Bool} {X Y : Prop} : ifB b X Y ↔ ((b = true → X) ∧ (b = false → Y)) := by cases b <;> simp [ifB]
theorem impT_iff {g : Bool} {p : Prop} : impT g p ↔ (g = true → p) := by cases g <;> simp [impT]

/-- What an operation or a call comes to. -/
structure R where
  pre : Prop
  val : A
  hp : Heap
  nx : Nat
  kill : List Nat
  mod : List Nat
  eff : Bool

mutual
def killA (n : Nat) : A → A
  | .sl k o l => bif Nat.beq k n then .any else .sl k o l
  | .pel k i j => bif Nat.beq k n then .any else .pel k i j
  | .ptr k o => bif Nat.beq k n then .any else .ptr k o
  | .mp k => bif Nat.beq k n then .any else .mp k
  | .agg l => .agg (killL n l)
  | .tup l => .tup (killL n l)
  | .func f l => .func f (killL n l)
  | .iface t v => .iface t (killA n v)
  | x => x
def killL (n : Nat) : List A → List A
  | [] => []
  | x :: r => killA n x :: killL n r
end
def killO (n : Nat) : O → O
  | .cells t l => .cells t (killL n l)
  | .vals t m l => .vals t m (killL n l)
  | o => o
def killHp (n : Nat) : Heap → Heap
  | [] => []
  | (k, o) :: r => (k, killO n o) :: killHp n r
def killFr (n : Nat) : List (Bool × A) → List (Bool × A)
  | [] => []
  | (g, v) :: r => (g, killA n v) :: killFr n r
def killsFr (l : List Nat) (fr : List (Bool × A)) : List (Bool × A) := l.foldl (fun f n => killFr n f) fr

mutual
/-- Does a value speak of this row? -/
def hasA (n : Nat) : A → Bool
  | .sl k _ _ => Nat.beq k n
  | .pel k _ _ => Nat.beq k n
  | .ptr k _ => Nat.beq k n
  | .mp k => Nat.beq k n
  | .agg l => hasL n l
  | .tup l => hasL n l
  | .func _ l => hasL n l
  | .iface _ v => hasA n v
  | _ => false
def hasL (n : Nat) : List A → Bool
  | [] => false
  | x :: r => hasA n x || hasL n r
end

mutual
/-- All names are below nx. -/
def bdA (nx : Nat) : A → Bool
  | .sl k _ _ => Nat.blt k nx
  | .pel k _ _ => Nat.blt k nx
  | .ptr k _ => Nat.blt k nx
  | .mp k => Nat.blt k nx
  | .agg l => bdL nx l
  | .tup l => bdL nx l
  | .func _ l => bdL nx l
  | .iface _ v => bdA nx v
  | _ => true
def bdL (nx : Nat) : List A → Bool
  | [] => true
  | x :: r => bdA nx x && bdL nx r
end
def bdO (nx : Nat) : O → Bool
  | .cells _ l => bdL nx l
  | .vals _ _ l => bdL nx l
  | _ => true
def bdHp (nx : Nat) : Heap → Bool
  | [] => true
  | (k, o) :: r => Nat.blt k nx && bdO nx o && bdHp nx r
def bdFr (nx : Nat) : List (Bool × A) → Bool
  | [] => true
  | (_, v) :: r => bdA nx v && bdFr nx r

/-! ### reading operands -/
def rdT (fr : List (Bool × A)) (t : Nat) : Bool × A := fr.getD t (true, .any)
def rdO (fr : List (Bool × A)) : Operand → Bool × A
  | .tmp t => rdT fr t
  | .const v => (true, ofVal v)
  | .global _ => (true, .any)
  | .func f => (true, .func f [])
def evO (fr : List (Bool × A)) (x : Operand) : A := (rdO fr x).2
def dfO (fr : List (Bool × A)) (x : Operand) : Bool := (rdO fr x).1
def putFr (fr : List (Bool × A)) (d : Option Nat) (g : Bool) (v : A) : List (Bool × A) := match d with
  | some t => fr.set t (g, v)
  | none => fr

/-! ### operations that only give a value -/
section
variable (P : Program)
/-- The value of an operation that doesn't act: what must hold, and the value. -/
def aval (fr : List (Bool × A)) (hp : Heap) : Op → Option (Option Prop × A)
  | .move x => some (none, evO fr x)
  | .assign x => some (none, evO fr x)
  | .build t ps => (buildA P t (ps.toList.map fun p => (p.1, evO fr p.2))).map fun v => (none, v)
  | .load t x => loadA P t hp (evO fr x)
  | .nilCheck x => match evO fr x with
    | .ptr n o => some (none, .ptr n o)
    | .pel n i j => some (none, .pel n i j)
    | .dpt y i j => some (none, .dpt y i j)
    | .func f l => some (none, .func f l)
    | .iface t v => some (none, .iface t v)
    | _ => none
  | .binOp op t x y _ => binA P op t (evO fr x) (evO fr y) (isConst x || isConst y)
  | .unOp op _ x => (unA op (evO fr x)).map fun v => (none, v)
  | .convert s d x => convA P s d hp (evO fr x)
  | .makeInterface t x => match P.underlying t with
    | some (.interface _) => none
    | some _ => some (none, .iface t (evO fr x))
    | none => none
  | .makeFunc (.func f) first cap => bif first.isEmpty then some (none, .func f (cap.toList.map (evO fr))) else none
  | .slice t x lo hi mx => match mx with
    | none => match P.underlying t with
      | some (.array _ _) => none
      | some (.pointer _) => none
      | some _ => sliceA P t hp (evO fr x) (lo.map (evO fr)) (hi.map (evO fr))
      | none => none
    | some _ => none
  | .fieldAddr t x f => (fieldA P t (evO fr x) f).map fun v => (none, v)
  | .field t x f => (fieldVal P t (evO fr x) f).map fun v => (none, v)
  | .indexAddr t x i => indexAddrA P t hp (evO fr x) (evO fr i)
  | .index t x i => indexVal P t (evO fr x) (evO fr i)
  | .extract x i => match evO fr x with
    | .tup l => (l[i]?).map fun v => (none, v)
    | _ => none
  | .call c => match c.callee with
    | .builtin .len => match c.args.toList with
      | [x] => match c.argTypes.toList with
        | t :: _ => (lenA P t (evO fr x)).map fun v => (none, v)
        | [] => none
      | _ => none
    | .builtin .min => (minA (c.args.toList.map (evO fr))).map fun v => (none, v)
    | .builtin .max => (maxA (c.args.toList.map (evO fr))).map fun v => (none, v)
    | _ => none
  | _ => none

/-! ### operations that act -/
def asInts : List A → List Int
  | .d (.int _ n) :: r => n :: asInts r
  | _ :: r => 0 :: asInts r
  | [] => []
def asStrs : List A → List (List UInt8)
  | .d (.str s) :: r => s :: asStrs r
  | _ :: r => [] :: asStrs r
  | [] => []
def allInts (k : IntKind) : List A → Bool
  | [] => true
  | .d (.int k' _) :: r => kEq k k' && allInts k r
  | _ => false
def allStrs : List A → Bool
  | [] => true
  | .d (.str _) :: r => allStrs r
  | _ => false
/-- A cell as data: a nil slice is an empty one. -/
def cellD : A → D
  | .d x => x
  | _ => .strs []
def allD : List A → Bool
  | [] => true
  | .d _ :: r => allD r
  | .nilsl :: r => allD r
  | _ => false
/-- The row of some cells, of elements of type e. -/
def rowOf (e sz n : Nat) (l : List A) : O := match P.underlying e with
  | some (.int k) => bif Nat.beq sz 1 && allInts k l then .row e (.ints k (asInts l)) else .vals e sz l
  | some .string => bif Nat.beq sz 1 && allStrs l then .row e (.strs (asStrs l)) else .vals e sz l
  | some (.struct _) => bif allD l then .row e (.recs sz n fun i j => cellD (l.getD (i * sz + j) .any)) else .vals e sz l
  | _ => .vals e sz l
def repL (n : Nat) (l : List A) : List A := match n with
  | 0 => []
  | n + 1 => l ++ repL n l
def zeroRow (e n : Nat) : Option D := match zeroA P e with
  | some (.d (.int k z)) => some (.ints k (List.replicate n z))
  | some (.d (.str s)) => some (.strs (List.replicate n s))
  | _ => none
/-- The cells of a long array's zero. -/
def isRepI (k : IntKind) : Nat → List A → Bool
  | 0, [] => true
  | n + 1, .d (.int k' z) :: r => kEq k k' && (match z with
    | .ofNat q => Nat.beq q 0
    | .negSucc _ => false) && isRepI k n r
  | _, _ => false
def isRepS : Nat → List A → Bool
  | 0, [] => true
  | n + 1, .d (.str s) :: r => s.isEmpty && isRepS n r
  | _, _ => false
def repD (n : Nat) (l : List A) : Option D := match l with
  | .d (.int k _) :: _ => bif isRepI k n l then some (.ints k (List.replicate n 0)) else none
  | .d (.str _) :: _ => bif isRepS n l then some (.strs (List.replicate n [])) else none
  | _ => none
/-- Cells of an element, where a row of such may grow. -/
def elSz (e : Nat) : Option Nat := match zeroA P e, szO P e with
  | some z, some m => bif known z && Nat.beq (cellsA z).length m && Nat.blt 0 m && Nat.blt 0 (byT P e) then some m else none
  | _, _ => none
/-- The second argument of append is a slice or a string. -/
def srcT (t : Nat) : Bool := match P.underlying t with
  | some (.slice _) => true
  | some .string => true
  | _ => false

def nameOf : A → List Nat
  | .ptr n _ => [n]
  | .pel n _ _ => [n]
  | .sl n _ _ => [n]
  | _ => []
def storeAt (t : Nat) (hp : Heap) (x v : A) : Option (Option Prop × Heap) := match x with
  | .ptr n off => match hget hp n with
    | some (.cells ty l) =>
      bif known v && sameN (some (cellsA v).length) (szO P t) && Nat.ble (off + (cellsA v).length) l.length
      then some (none, hset hp n (.cells ty (l.take off ++ cellsA v ++ l.drop (off + (cellsA v).length)))) else none
    | _ => none
  | .pel n i j => match hget hp n with
    | some (.row ty y) => match v with
      | .d z => bif sameN (some 1) (szO P t) && Nat.blt j y.wid then (y.upd i j z).map fun y' => (some (i < y.cnt), hset hp n (.row ty y')) else none
      | _ => none
    | some (.vals ty m l) =>
      bif known v && sameN (some (cellsA v).length) (szO P t) && Nat.ble (i * m + j + (cellsA v).length) l.length
      then some (none, hset hp n (.vals ty m (l.take (i * m + j) ++ cellsA v ++ l.drop (i * m + j + (cellsA v).length)))) else none
    | _ => none
  | _ => none

/-- What is appended: data, or the cells of a literal. -/
def srcOf (hp : Heap) : A → Option (Option Prop × (D ⊕ (Nat × List A)))
  | .d (.str s) => some (none, .inl (.str s))
  | .d y => bif y.isSl then some (none, .inl y) else none
  | .sl n off len => match hget hp n with
    | some (.row _ y) => some (some (off + len ≤ y.cnt), .inl (y.cut off len))
    | some (.vals _ m l) => bif Nat.beq off 0 && Nat.beq (len * m) l.length then some (none, .inr (m, l)) else none
    | _ => none
  | _ => none
def addP (p : Option Prop) (q : Prop) : Prop := match p with
  | none => q
  | some r => r ∧ q
def lim : Nat := 140737488355328
def emptyLike : D → D
  | .strs _ => .strs []
  | .ints k _ => .ints k []
  | .str _ => .ints .u8 []
  | .recs m _ c => .recs m 0 c
  | x => x
def appendA (t : Nat) (hp : Heap) (nx : Nat) (s x : A) : Option R := match elT P t with
  | none => none
  | some e => match srcOf hp x with
    | none => match x with
      | .nilsl => bif (elSz P e).isNone then none else match s with
        | .nilsl => some ⟨True, s, hp, nx, [], [], false⟩
        | .sl _ _ _ => some ⟨True, s, hp, nx, [], [], false⟩
        | _ => none
      | _ => none
    | some (p, .inl y) => match s with
      | .nilsl => match (emptyLike y).app y with
        | some y' => bif sameN (some y'.wid) (elSz P e) then
            some ⟨addP p (y'.cnt * byT P e ≤ lim), .sl nx 0 y'.cnt, hset hp nx (.row e y'), nx + 1, [], [], true⟩ else none
        | none => none
      | .sl n off len => match hget hp n with
        | some (.row ty z) => match z.app y with
          | some z' => bif Nat.beq off 0 && Nat.beq ty e && sameN (some z'.wid) (elSz P e) then
              some ⟨addP p (len = z.cnt ∧ z'.cnt * byT P e ≤ lim), .sl n 0 z'.cnt, hset (killHp n hp) n (.row e z'), nx, [n], [n], true⟩ else none
          | none => none
        | _ => none
      | _ => none
    | some (p, .inr (m, l)) => match s with
      | .nilsl => bif sameN (some m) (elSz P e) && Nat.blt 0 m && Nat.blt 0 l.length then
          some ⟨l.length * byT P e ≤ lim, .sl nx 0 (l.length / m), hset hp nx (.vals e m l), nx + 1, [], [], true⟩ else none
      | .sl n off len => match hget hp n with
        | some (.vals ty m' l') => bif Nat.beq off 0 && Nat.beq ty e && Nat.beq m m' && sameN (some m) (elSz P e) && Nat.beq (len * m) l'.length && Nat.blt 0 m then
            some ⟨(l' ++ l).length * byT P e ≤ lim, .sl n 0 ((l' ++ l).length / m), hset (killHp n hp) n (.vals e m (killL n (l' ++ l))), nx, [n], [n], true⟩ else none
        | _ => none
      | _ => none

def aeff (fr : List (Bool × A)) (hp : Heap) (nx : Nat) : Op → Option R
  | .alloc t => match zeroA P t with
    | none => none
    | some z => bif !(known z) then none else match P.underlying t with
      | some (.array len _) => match (bif Nat.blt 8 len && Nat.ble len lim then repD len (cellsA z) else none) with
        | some y => some ⟨True, .pel nx 0 0, hset hp nx (.row t y), nx + 1, [], [], true⟩
        | none => some ⟨True, .ptr nx 0, hset hp nx (.cells t (cellsA z)), nx + 1, [], [], true⟩
      | _ => some ⟨True, .ptr nx 0, hset hp nx (.cells t (cellsA z)), nx + 1, [], [], true⟩
  | .box t x => bif !(known (evO fr x)) then none else some ⟨True, .ptr nx 0, hset hp nx (.cells t (cellsA (evO fr x))), nx + 1, [], [], true⟩
  | .store t x y => (storeAt P t hp (evO fr x) (evO fr y)).map fun r => ⟨match r.1 with
      | none => True
      | some p => p, .any, r.2, nx, [], nameOf (evO fr x), true⟩
  | .buildSlice t n ps => match elT P t with
    | none => none
    | some e => match zeroA P e, elSz P e with
      | some z, some sz => bif known z then (lay (fun i => some (i * sz, sz)) (repL n (cellsA z)) (ps.toList.map fun p => (p.1, evO fr p.2))).map fun l =>
        ⟨n * sz ≤ 16777216, .sl nx 0 n, hset hp nx (rowOf P e sz n l), nx + 1, [], [], true⟩ else none
      | _, _ => none
  | .makeSlice t l c => match elT P t, evO fr l, evO fr c with
    | some e, .d (.int .i64 l'), .d (.int .i64 c') => bif !(sameN (some 1) (elSz P e)) then none else (zeroRow P e l'.toNat).map fun y =>
        ⟨0 ≤ l' ∧ l' ≤ c' ∧ c'.toNat * byT P e ≤ lim, .sl nx 0 l'.toNat, hset hp nx (.row e y), nx + 1, [], [], true⟩
    | _, _, _ => none
  | .convert src d x => match evO fr x with
    | .d (.str s) => match P.underlying src with
      | some .string => match elT P d with
        | some e => match P.underlying e with
          | some (.int .u8) => some ⟨s.length ≤ lim, .sl nx 0 s.length, hset hp nx (.row e (.ints .u8 (s.map fun b => (b.toNat : Int)))), nx + 1, [], [], true⟩
          | _ => none
        | none => none
      | _ => none
    | _ => none
  | .call c => match c.callee with
    | .builtin .append => match c.args.toList with
      | [s, x] => match c.argTypes.toList with
        | [t, t'] => bif srcT P t' then appendA P t hp nx (evO fr s) (evO fr x) else none
        | _ => none
      | _ => none
    | _ => none
  | _ => none
/-- Does it act? (A conversion does if no value comes of it.) -/
def isEff : Op → Bool
  | .alloc _ | .box _ _ | .store _ _ _ | .buildSlice _ _ _ | .makeSlice _ _ _ => true
  | .call c => match c.callee with
    | .builtin .append => true
    | _ => false
  | _ => false
end
end Ax

set_option linter.unusedVariables false
namespace Ax
open Go

structure St where
  fr : List (Bool × A)
  hp : Heap
  nx : Nat
  kl : List Nat

inductive AX where
  | normal
  | exit (id : Nat)
  | ret

/-- How a loop is met: round by round, or by a relation. -/
inductive Ann : Type 1 where
  | unroll (k : Nat)
  | inv (σ : Type) (shape : St → σ → St) (I : St → σ → Prop) (μ : St → σ → Nat)

inductive CE where
  | ct (f : List A → Heap → Nat → Option R)
  | inl
  | no

structure Cfg where
  P : Program
  Γ : Nat → CE
  ann : Nat → Nat → Ann

/-! ### one operation -/
inductive SR where
  | val (pre : Option Prop) (v : A)
  | act (r : R)
  | inl (f : Nat) (args : List A)
  | bad

def callOf (fr : List (Bool × A)) (c : Call) : Option (Nat × List A) := match c.callee with
  | .value f => match evO fr f with
    | .func g cap => some (g, c.args.toList.map (evO fr) ++ cap)
    | _ => none
  | _ => none
def semCall (C : Cfg) (fr : List (Bool × A)) (hp : Heap) (nx : Nat) (c : Call) : SR := match callOf fr c with
  | some (f, as) => match C.Γ f with
    | .ct g => match g as hp nx with
      | some r => bif r.eff then .act r else .val (some r.pre) r.val
      | none => .bad
    | .inl => .inl f as
    | .no => .bad
  | none => .bad
def semOp (C : Cfg) (fr : List (Bool × A)) (hp : Heap) (nx : Nat) : Op → SR
  | .pick c x y => match evO fr c with
    | .d (.bool b) => .val none (pickA b (evO fr x) (evO fr y))
    | _ => .bad
  | op => match aval C.P fr hp op with
    | some (p, v) => .val p v
    | none => match aeff C.P fr hp nx op with
      | some r => .act r
      | none => match op with
        | .call c => semCall C fr hp nx c
        | _ => .bad
def dfAll (fr : List (Bool × A)) : List Operand → Bool
  | [] => true
  | x :: r => dfO fr x && dfAll fr r
/-- Are the operands there? -/
def dfOp (fr : List (Bool × A)) : Op → Bool
  | .pick c x y => dfO fr c && (match evO fr c with
    | .d (.bool b) => (bif b then dfO fr x else dfO fr y)
    | _ => false)
  | op => dfAll fr op.operands.toList

/-- Does the operation come up? none: not known here. -/
def gcond (fr : List (Bool × A)) (all : Array Oper) : Option (Nat × Bool) → Option Bool
  | none => some true
  | some (j, want) => match (all[j]?).bind (·.dst) with
    | some d => match rdT fr d with
      | (g, .d (.bool b)) => some (g && (bif want then b else !b))
      | (g, .any) => match g with
        | false => some false
        | true => none
      | _ => none
    | none => none
/-- The guard's slot, once it is known. -/
def gset (fr : List (Bool × A)) (all : Array Oper) (g : Option (Nat × Bool)) (b : Bool) : List (Bool × A) := match g with
  | none => fr
  | some (j, want) => match (all[j]?).bind (·.dst) with
    | some d => match b with
      | true => fr.set d (true, .d (.bool want))
      | false => match rdT fr d with
        | (true, .d (.bool _)) => fr.set d (true, .d (.bool (!want)))
        | _ => fr
    | none => fr

def andP (p : Option Prop) (γ : Bool) (X : Prop) : Prop := match p with
  | none => X
  | some q => impT γ q ∧ X
def dP (γ dfs : Bool) (X : Prop) : Prop := match dfs with
  | true => X
  | false => γ = false ∧ X

abbrev Inl := Nat → List A → Heap → Nat → (A → Heap → Nat → List Nat → Prop) → Prop

def St.val (st : St) (dst : Option Nat) (γ : Bool) (v : A) : St := { st with fr := putFr st.fr dst γ v }
def St.act (st : St) (dst : Option Nat) (v : A) (hp : Heap) (nx : Nat) (kill : List Nat) : St :=
  ⟨putFr (killsFr kill st.fr) dst true v, hp, nx, kill ++ st.kl⟩

def aops (C : Cfg) (inl : Inl) (all : Array Oper) : List Oper → St → (St → Prop) → Prop
  | [], st, K => K st
  | o :: rest, st, K => match gcond st.fr all o.guard with
    | none => False
    | some γ => match semOp C st.fr st.hp st.nx o.op with
      | .val p v => dP γ (dfOp st.fr o.op) (andP p γ (aops C inl all rest (st.val o.dst γ v) K))
      | .act r => ifB γ
          (dP true (dfOp st.fr o.op) (r.pre ∧ aops C inl all rest ({ st with fr := gset st.fr all o.guard true }.act o.dst r.val r.hp r.nx r.kill) K))
          (aops C inl all rest ({ st with fr := gset st.fr all o.guard false }.val o.dst false .any) K)
      | .inl f as => ifB γ
          (dP true (dfOp st.fr o.op) (inl f as st.hp st.nx fun v hp nx kl => aops C inl all rest ({ st with fr := gset st.fr all o.guard true }.act o.dst v hp nx kl) K))
          (aops C inl all rest ({ st with fr := gset st.fr all o.guard false }.val o.dst false .any) K)
      | .bad => γ = false ∧ aops C inl all rest (st.val o.dst false .any) K

/-! ### a region that draws its order -/
structure Ent where
  o : Oper
  γ : Bool
  eff : Bool
  st : St
  val : A
  hp : Heap
  nx : Nat
  kill : List Nat
  mod : List Nat

def aopsT (C : Cfg) (all : Array Oper) : List Oper → St → List Ent → (St → List Ent → Prop) → Prop
  | [], st, tr, K => K st tr
  | o :: rest, st, tr, K => match gcond st.fr all o.guard with
    | none => False
    | some γ => match semOp C st.fr st.hp st.nx o.op with
      | .val p v => dP γ (dfOp st.fr o.op) (andP p γ (aopsT C all rest (st.val o.dst γ v) (⟨o, γ, false, st, v, st.hp, st.nx, [], []⟩ :: tr) K))
      | .act r => ifB γ
          (dP true (dfOp st.fr o.op) (r.pre ∧ aopsT C all rest (st.act o.dst r.val r.hp r.nx r.kill) (⟨o, true, true, st, r.val, r.hp, r.nx, r.kill, r.mod⟩ :: tr) K))
          (aopsT C all rest (st.val o.dst false .any) (⟨o, false, false, st, .any, st.hp, st.nx, [], []⟩ :: tr) K)
      | .inl f as => γ = false ∧ aopsT C all rest (st.val o.dst false .any) (⟨o, false, false, st, .any, st.hp, st.nx, [], []⟩ :: tr) K
      | .bad => γ = false ∧ aopsT C all rest (st.val o.dst false .any) (⟨o, false, false, st, .any, st.hp, st.nx, [], []⟩ :: tr) K

/-- What comes ahead of each operation, as the bits of a number. -/
def befs1 (bs : List Nat) : List Edge → Nat
  | [] => 0
  | e :: r => bif Region.binds .any e then Nat.lor (befs1 bs r) (Nat.lor (Nat.shiftLeft 1 e.on) (bs.getD e.on 0)) else befs1 bs r
def befs : List Oper → List Nat → List Nat
  | [], bs => bs
  | o :: r, bs => befs r (bs ++ [befs1 bs o.after.toList])
/-- Is i ahead of j, in whatever order? -/
def ahead (bs : List Nat) (i j : Nat) : Bool := Nat.testBit (bs.getD j 0) i
/-- Does the operation look at memory, and by which names? (none: whatever.) -/
def looks (fr : List (Bool × A)) : Op → Option (List Nat)
  | .load _ x => some (nameOf (evO fr x))
  | .convert _ _ x => some (nameOf (evO fr x))
  | .indexAddr _ x _ => some (nameOf (evO fr x))
  | .slice _ x _ _ _ => some (nameOf (evO fr x))
  | .call c => match c.callee with
    | .builtin _ => some []
    | _ => none
  | _ => some []

/-- The same value, and nothing more asked. -/
def sameSR (a b : SR) : List Prop := match a, b with
  | .val _ v, .val p' v' => (v' = v) :: (match p' with
    | none => []
    | some q => [q])
  | _, _ => [False]
/-- Entry x, at the memory of another stage: the same. -/
def chk1 (C : Cfg) (x : Ent) (hp : Heap) (nx : Nat) : List Prop :=
  (sameSR (semOp C x.st.fr x.st.hp x.st.nx x.o.op) (semOp C x.st.fr hp nx x.o.op)).map (impT x.γ)

mutual
/-- All of it is known, and it speaks of none of these rows. -/
def solidA (ks : List Nat) : A → Bool
  | .any => false
  | .sl k _ _ => !(ks.any (Nat.beq k))
  | .pel k _ _ => !(ks.any (Nat.beq k))
  | .ptr k _ => !(ks.any (Nat.beq k))
  | .mp k => !(ks.any (Nat.beq k))
  | .agg l => solidL ks l
  | .tup l => solidL ks l
  | .func _ l => solidL ks l
  | .iface _ v => solidA ks v
  | _ => true
def solidL (ks : List Nat) : List A → Bool
  | [] => true
  | x :: r => solidA ks x && solidL ks r
end
mutual
/-- It speaks of none of these rows. -/
def freeA (ks : List Nat) : A → Bool
  | .sl k _ _ => !(ks.any (Nat.beq k))
  | .pel k _ _ => !(ks.any (Nat.beq k))
  | .ptr k _ => !(ks.any (Nat.beq k))
  | .mp k => !(ks.any (Nat.beq k))
  | .agg l => freeL ks l
  | .tup l => freeL ks l
  | .func _ l => freeL ks l
  | .iface _ v => freeA ks v
  | _ => true
def freeL (ks : List Nat) : List A → Bool
  | [] => true
  | x :: r => freeA ks x && freeL ks r
end
def solidOps (ks : List Nat) (all : Array Oper) (fr : List (Bool × A)) (o : Oper) : Bool :=
  o.op.operands.toList.all (fun x => solidA ks (evO fr x)) && (match o.guard with
    | none => true
    | some (j, _) => match (all[j]?).bind (·.dst) with
      | some d => solidA ks (rdT fr d).2
      | none => true)
def noLooks (fr : List (Bool × A)) (op : Op) : Bool := match looks fr op with
  | some [] => true
  | _ => false
def allKills : List Ent → List Nat
  | [] => []
  | e :: r => e.kill ++ allKills r
/-- It may come up in either order beside whatever kills these. -/
def besideK (ks : List Nat) (ops : Array Oper) (x : Ent) : Bool := solidOps ks ops x.st.fr x.o && freeA ks x.val && noLooks x.st.fr x.o.op
/-- An entry that acts (number i), and another one that may come up in either order. -/
def chkPair (C : Cfg) (ops : Array Oper) (bs ks : List Nat) (i j : Nat) (e x : Ent) : List Prop :=
  bif Nat.beq i j || ahead bs i j || ahead bs j i then [] else
  bif x.eff || !(e.kill.isEmpty || besideK ks ops x) then [False] else
  match looks x.st.fr x.o.op with
  | some l => bif l.all (fun n => Nat.blt n e.st.nx && !(e.mod.any (Nat.beq n))) then [] else [impT x.γ False]
  | none => chk1 C x e.st.hp e.st.nx ++ chk1 C x e.hp e.nx
def chkE (C : Cfg) (ops : Array Oper) (bs ks : List Nat) (i : Nat) (e : Ent) : Nat → List Ent → List Prop
  | _, [] => []
  | j, x :: r => chkPair C ops bs ks i j e x ++ chkE C ops bs ks i e (j + 1) r
def chkAll (C : Cfg) (ops : Array Oper) (bs ks : List Nat) (all : List Ent) : Nat → List Ent → List Prop
  | _, [] => []
  | i, e :: r => (bif e.eff then chkE C ops bs ks i e 0 all else []) ++ chkAll C ops bs ks all (i + 1) r
def conjL : List Prop → Prop → Prop
  | [], X => X
  | p :: r, X => p ∧ conjL r X

/-- Whoever writes a slot and whoever looks at it come in one order. -/
def slotsPair (ops : Array Oper) (bs : List Nat) (i j : Nat) (x y : Oper) : Bool :=
  ahead bs i j || x.apart ops y
def slots1 (ops : Array Oper) (bs : List Nat) (i : Nat) (x : Oper) : Nat → List Oper → Bool
  | _, [] => true
  | j, y :: r => slotsPair ops bs i j x y && slots1 ops bs i x (j + 1) r
def slotsOk (ops : Array Oper) (bs : List Nat) : Nat → List Oper → Bool
  | _, [] => true
  | i, x :: r => slots1 ops bs i x (i + 1) r && slotsOk ops bs (i + 1) r
/-- Edges point backwards. -/
def backs1 (i : Nat) : List Edge → Bool
  | [] => true
  | e :: r => (!(Region.binds .any e) || Nat.blt e.on i) && backs1 i r
def backs : Nat → List Oper → Bool
  | _, [] => true
  | i, o :: r => backs1 i o.after.toList && backs (i + 1) r
def regOk (ops : Array Oper) : Bool := backs 0 ops.toList && slotsOk ops (befs ops.toList []) 0 ops.toList

def aregD (C : Cfg) (ops : Array Oper) (st : St) (K : St → Prop) : Prop :=
  dP true (regOk ops) (aopsT C ops ops.toList st [] fun st' tr =>
    conjL (chkAll C ops (befs ops.toList []) (allKills tr.reverse) tr.reverse 0 tr.reverse) (K st'))

/-! ### weakening -/
/-- Rows of records: of one width and length, cell by cell the same. -/
def sameRec : D → D → Prop
  | .recs m n c, .recs m' n' c' => m = m' ∧ n = n' ∧ ∀ i j, i < n → j < m → c i j = c' i j
  | _, _ => False
def eqvD : D → D → List Prop
  | .bool a, .bool b => [a = b]
  | .int k a, .int k' b => bif kEq k k' then [a = b] else [False]
  | .str a, .str b => [a = b]
  | .strs a, .strs b => [a = b]
  | .ints k a, .ints k' b => bif kEq k k' then [a = b] else [False]
  | .recs m n c, .recs m' n' c' => [sameRec (.recs m n c) (.recs m' n' c')]
  | _, _ => [False]
/-- What is dropped on the way: rows that may be read as data. nn: fresh names of empty rows. -/
structure Vw where
  hp : Heap
  nn : List Nat
mutual
/-- x is what v says, or more. -/
def eqvA (V : Vw) : A → A → List Prop
  | _, .any => []
  | .d x, .d y => eqvD x y
  | .nilptr, .nilptr => []
  | .nilsl, .nilsl => []
  | .niliface, .niliface => []
  | .nilfunc, .nilfunc => []
  | .nilmap, .nilmap => []
  | .nilsl, .d y => bif y.isSl then [y.cnt = 0] else [False]
  | .nilsl, .sl n o l => bif V.nn.any (Nat.beq n) then [o = 0, l = 0] else [False]
  | .sl n off len, .d y => match viewSl V.hp (.sl n off len) with
    | some (some p, x) => p :: eqvD x y
    | some (none, x) => eqvD x y
    | none => [False]
  | .ptr n o, .ptr n' o' => [n = n', o = o']
  | .pel n i j, .pel n' i' j' => [n = n', i = i', j = j']
  | .sl n o l, .sl n' o' l' => [n = n', o = o', l = l']
  | .mp n, .mp n' => [n = n']
  | .func f l, .func f' l' => (f = f') :: eqvL V l l'
  | .iface t v, .iface t' v' => (t = t') :: eqvA V v v'
  | .agg l, .agg l' => eqvL V l l'
  | .tup l, .tup l' => eqvL V l l'
  | _, _ => [False]
def eqvL (V : Vw) : List A → List A → List Prop
  | [], [] => []
  | x :: r, y :: s => eqvA V x y ++ eqvL V r s
  | _, _ => [False]
end
def eqvO (V : Vw) : O → O → List Prop
  | .cells t l, .cells t' l' => (t = t') :: eqvL V l l'
  | .row t x, .row t' x' => (t = t') :: eqvD x x'
  | .vals t m l, .vals t' m' l' => (t = t') :: (m = m') :: eqvL V l l'
  | _, _ => [False]
def eqvG (g g' : Bool) : List Prop := match g, g' with
  | true, true => []
  | false, false => []
  | g, g' => [g = g']
def eqvFr (V : Vw) : List (Bool × A) → List (Bool × A) → List Prop
  | [], [] => []
  | (g, v) :: r, (g', v') :: s => (match v' with
    | .any => (match g' with
      | true => []
      | false => [g = false])
    | _ => eqvG g g' ++ eqvA V v v') ++ eqvFr V r s
  | _, _ => [False]
def eqvHp (V : Vw) (hp : Heap) : Heap → List Prop
  | [] => []
  | (n, o') :: r => (match hget hp n with
    | some o => eqvO V o o'
    | none => bif V.nn.any (Nat.beq n) then (match o' with
      | .row _ x => bif x.isSl then [x.cnt = 0] else [False]
      | _ => [False]) else [False]) ++ eqvHp V hp r
def hdiff : Heap → Heap → Heap
  | [], _ => []
  | (n, o) :: r, hp' => match hget hp' n with
    | some _ => hdiff r hp'
    | none => (n, o) :: hdiff r hp'
def newNil (hp : Heap) : Heap → List Nat
  | [] => []
  | (n, .row _ _) :: r => match hget hp n with
    | some _ => newNil hp r
    | none => n :: newNil hp r
  | _ :: r => newNil hp r
def vw (hp hp' : Heap) : Vw := ⟨hdiff hp hp', newNil hp hp'⟩
/-- The state st may be taken for st'. -/
def weak (lo : Nat) (st st' : St) : List Prop :=
  bif Nat.ble lo st'.nx && bdFr st'.nx st'.fr && bdHp st'.nx st'.hp && (newNil st.hp st'.hp).all (Nat.ble st.nx) && st.kl.all (fun n => Nat.ble lo n || st'.kl.any (Nat.beq n))
  then eqvFr (vw st.hp st'.hp) st.fr st'.fr ++ eqvHp (vw st.hp st'.hp) st.hp st'.hp else [False]

/-! ### code -/
def nloops : Code → Nat
  | .seq a b => nloops a + nloops b
  | .cond _ a b => nloops a + nloops b
  | .block _ a => nloops a
  | .scope a => nloops a
  | .loop a => nloops a + 1
  | _ => 0
def inBlk (id : Nat) (Q : AX → St → Prop) : AX → St → Prop
  | .exit i, s => bif Nat.beq i id then Q .normal s else Q (.exit i) s
  | e, s => Q e s
def thenX (K : St → Prop) (Q : AX → St → Prop) : AX → St → Prop
  | .normal, s => K s
  | e, s => Q e s
def rounds (body : St → (AX → St → Prop) → Prop) : Nat → St → (AX → St → Prop) → Prop
  | 0, _, _ => False
  | n + 1, st, Q => body st (thenX (fun s => rounds body n s Q) Q)
def byInv (lo : Nat) (body : St → (AX → St → Prop) → Prop) (σ : Type) (shape : St → σ → St) (I : St → σ → Prop) (μ : St → σ → Nat) (st : St) (Q : AX → St → Prop) : Prop :=
  (∃ x, conjL (weak lo st (shape st x)) (I st x)) ∧
  ∀ x, I st x → body (shape st x) (thenX (fun s => ∃ y, conjL (weak lo s (shape st y)) (I st y ∧ μ st y < μ st x)) Q)

def aexec (C : Cfg) (inl : Inl) (fid lo : Nat) : Code → Nat → St → (AX → St → Prop) → Prop
  | .skip, _, st, Q => Q .normal st
  | .label _, _, st, Q => Q .normal st
  | .region _ ops draw, _, st, Q => match draw with
    | false => aops C inl ops ops.toList st (Q .normal)
    | true => aregD C ops st (Q .normal)
  | .seq a b, k, st, Q => aexec C inl fid lo a k st (thenX (fun s => aexec C inl fid lo b (k + nloops a) s Q) Q)
  | .cond c a b, k, st, Q => match rdO st.fr c with
    | (g, .d (.bool t)) => dP true g (ifB t (aexec C inl fid lo a k st Q) (aexec C inl fid lo b (k + nloops a) st Q))
    | _ => False
  | .block id a, k, st, Q => aexec C inl fid lo a k st (inBlk id Q)
  | .loop a, k, st, Q => match C.ann fid k with
    | .unroll n => rounds (fun s R => aexec C inl fid lo a (k + 1) s R) n st Q
    | .inv σ shape I μ => byInv lo (fun s R => aexec C inl fid lo a (k + 1) s R) σ shape I μ st Q
  | .exit id, _, st, Q => Q (.exit id) st
  | .ret, _, st, Q => Q .ret st
  | _, _, _, _ => False

def resOne (P : Program) (st : St) : ResultVar → Option (List Prop × A)
  | .tmp t => match rdT st.fr t with
    | (g, v) => some (eqvG g true, v)
  | .cell x t => match rdT st.fr x with
    | (g, v) => (loadA P t st.hp v).map fun r => (eqvG g true ++ (match r.1 with
      | none => []
      | some p => [p]), r.2)
def resAll (P : Program) (st : St) : List ResultVar → Option (List Prop × List A)
  | [] => some ([], [])
  | x :: r => match resOne P st x, resAll P st r with
    | some (p, v), some (q, vs) => some (p ++ q, v :: vs)
    | _, _ => none
def ares (P : Program) (f : Func) (st : St) : Option (List Prop × A) := match resAll P st f.results.toList with
  | some (p, [v]) => some (p, v)
  | some (p, vs) => some (p, .tup vs)
  | none => none
def slots0 (n : Nat) (as : List A) : List (Bool × A) := as.map (fun v => (true, v)) ++ List.replicate (n - as.length) (false, .any)
def afun (C : Cfg) (inl : Inl) (fid : Nat) (f : Func) (as : List A) (hp : Heap) (nx : Nat) (K : A → Heap → Nat → List Nat → Prop) : Prop :=
  match f.body with
  | none => False
  | some c => aexec C inl fid nx c 0 ⟨slots0 f.ntmps as, hp, nx, []⟩ fun e st => match e with
    | .exit _ => False
    | _ => match ares C.P f st with
      | some (p, v) => conjL p (K v st.hp st.nx st.kl)
      | none => False
def inlN (C : Cfg) : Nat → Inl
  | 0 => fun _ _ _ _ _ => False
  | n + 1 => fun f as hp nx K => match C.P.funcs[f]? with
    | some fn => afun C (inlN C n) f fn as hp nx K
    | none => False

/-! ### helpers for the shape of a loop -/
def writesR : List Oper → List Nat
  | [] => []
  | o :: r => match o.dst with
    | some d => d :: writesR r
    | none => writesR r
def writesC : Code → List Nat
  | .region _ ops _ => writesR ops.toList
  | .seq a b => writesC a ++ writesC b
  | .cond _ a b => writesC a ++ writesC b
  | .block _ a => writesC a
  | .loop a => writesC a
  | _ => []
def havL (l : List Nat) (fr : List (Bool × A)) : List (Bool × A) := l.foldl (fun f t => f.set t (true, .any)) fr
/-- Slots with these values; those of hav with whatever they hold. -/
def St.with (st : St) (hav : List Nat) (l : List (Nat × A)) (objs : Heap) (nx : Nat) : St :=
  { fr := l.foldl (fun f p => f.set p.1 (true, p.2)) (havL hav st.fr), hp := objs.foldl (fun h p => hset h p.1 p.2) st.hp, nx := nx, kl := st.kl }
end Ax

set_option linter.unusedVariables false
namespace Ax
open Go

abbrev one : Value → Bool := Value.oneCell'

/-- A slice of n elements of m cells each, in blocks that nobody writes. -/
def SlR (ok : Nat → Prop) (w : World) (n m : Nat) (C : Nat → Nat → Value → Prop) (v : Value) : Prop :=
  ∃ a cp, v = .slice a n cp ∧ n ≤ cp ∧ n ≤ 281474976710656 ∧
    (0 < n → ∃ ad : Addr, a = some ad ∧ ok ad.block ∧ ∀ i j, i < n → j < m → ∃ u, w.cell? (ad.add (i * m + j)) = some u ∧ C i j u)
def strV (s : List UInt8) : Value := .string ⟨s.toArray⟩
def SB : Nat := 4611686018427387904
/-- v is what x says. -/
def RD (ok : Nat → Prop) (w : World) : D → Value → Prop
  | .bool b, v => v = .bool b
  | .int k n, v => v = .int k n
  | .str s, v => v = strV s ∧ s.length ≤ SB
  | .strs l, v => SlR ok w l.length 1 (fun i _ u => u = strV (l.getD i []) ∧ (l.getD i []).length ≤ SB) v
  | .ints k l, v => SlR ok w l.length 1 (fun i _ u => u = .int k (l.getD i 0)) v
  | .recs m n c, v => SlR ok w n m (fun i j u => RD ok w (c i j) u) v

theorem RD_sl {ok : Nat → Prop} {w : World} {x : D} {v : Value} (h : x.isSl = true) :
    RD ok w x v ↔ SlR ok w x.cnt x.wid (fun i j u => RD ok w (x.at i j) u) v := by
  cases x <;> simp [D.isSl] at h <;> exact Iff.rfl

structure Loc where
  b : Option Nat
  m : Nat
  sz : Nat
abbrev Rho := Nat → Loc

mutual
def Rel (ρ : Rho) (ok : Nat → Prop) (w : World) : A → Value → Prop
  | .d x, v => RD ok w x v
  | .nilptr, v => v = .pointer none
  | .nilsl, v => v = .slice none 0 0
  | .niliface, v => v = .nilIface
  | .nilfunc, v => v = .nilFunc
  | .nilmap, v => v = .map none
  | .ptr n off, v => ∃ b, (ρ n).b = some b ∧ v = .pointer (some ⟨b, off, none⟩)
  | .pel n i j, v => ∃ b, (ρ n).b = some b ∧ v = .pointer (some ⟨b, i * (ρ n).m + j, none⟩)
  | .dpt x i j, v => ∃ ad : Addr, v = .pointer (some ad) ∧ ok ad.block ∧ ∀ q, j + q < x.wid → ∃ u, w.cell? (ad.add q) = some u ∧ RD ok w (x.at i (j + q)) u
  | .sl n off len, v => (match (ρ n).b with
    | none => off = 0 ∧ len = 0 ∧ v = .slice none 0 0
    | some b => ∃ ad c, v = .slice (some ad) len c ∧ len ≤ c ∧ (off + c) * (ρ n).m = (ρ n).sz ∧ (0 < c → ad = ⟨b, off * (ρ n).m, none⟩))
  | .func f l, v => ∃ vs : Array Value, v = .func (.func f) #[] vs ∧ RelL ρ ok w l vs.toList
  | .iface t x, v => ∃ u, v = .iface t u ∧ Rel ρ ok w x u
  | .mp n, v => ∃ b, (ρ n).b = some b ∧ v = .map (some b)
  | .agg l, v => ∃ vs : Array Value, v = .agg vs ∧ RelL ρ ok w l vs.toList ∧ ∀ u ∈ vs.toList, one u = true
  | .tup l, v => ∃ vs : Array Value, v = .tuple vs ∧ RelL ρ ok w l vs.toList
  | .any, _ => True
def RelL (ρ : Rho) (ok : Nat → Prop) (w : World) : List A → List Value → Prop
  | [], [] => True
  | x :: r, v :: s => Rel ρ ok w x v ∧ RelL ρ ok w r s
  | _, _ => False
end

theorem RelL_len {ρ : Rho} {ok : Nat → Prop} {w : World} : ∀ {l : List A} {vs : List Value}, RelL ρ ok w l vs → l.length = vs.length
  | [], [], _ => rfl
  | _ :: r, _ :: s, h => by
    simp only [RelL] at h
    simp [RelL_len h.2]
  | [], _ :: _, h => by simp [RelL] at h
  | _ :: _, [], h => by simp [RelL] at h

/-! ### other worlds -/
theorem Addr.add_block (a : Addr) (n : Nat) : (a.add n).block = a.block := by unfold Addr.add; split <;> rfl
theorem cell?_same {w w' : World} {a : Addr} (h : w'.heap[a.block]? = w.heap[a.block]?) : w'.cell? a = w.cell? a := by
  unfold World.cell?; rw [h]
theorem cell?_add {w w' : World} {a : Addr} (n : Nat) (h : w'.heap[a.block]? = w.heap[a.block]?) : w'.cell? (a.add n) = w.cell? (a.add n) :=
  cell?_same (by rw [Addr.add_block, h])

theorem SlR_mono {ok ok' : Nat → Prop} {w w' : World} {n m : Nat} {C C' : Nat → Nat → Value → Prop} {v : Value}
    (hk : ∀ b, ok b → ok' b) (hw : ∀ b, ok b → w'.heap[b]? = w.heap[b]?) (hC : ∀ i j u, i < n → j < m → C i j u → C' i j u) (h : SlR ok w n m C v) : SlR ok' w' n m C' v := by
  obtain ⟨a, cp, e, h1, h2, h3⟩ := h
  refine ⟨a, cp, e, h1, h2, fun hp => ?_⟩
  obtain ⟨ad, ea, hb, hc⟩ := h3 hp
  refine ⟨ad, ea, hk _ hb, fun i j hi hj => ?_⟩
  obtain ⟨u, hu, hCu⟩ := hc i j hi hj
  exact ⟨u, (cell?_add _ (hw _ hb)).trans hu, hC i j u hi hj hCu⟩

theorem RD_mono {ok ok' : Nat → Prop} {w w' : World} (hk : ∀ b, ok b → ok' b) (hw : ∀ b, ok b → w'.heap[b]? = w.heap[b]?) :
    ∀ (x : D) (v : Value), RD ok w x v → RD ok' w' x v
  | .bool _, _, h => h
  | .int _ _, _, h => h
  | .str _, _, h => h
  | .strs _, _, h => SlR_mono hk hw (fun _ _ _ _ _ h => h) h
  | .ints _ _, _, h => SlR_mono hk hw (fun _ _ _ _ _ h => h) h
  | .recs _ _ c, _, h => SlR_mono hk hw (fun i j u _ _ h => RD_mono hk hw (c i j) u h) h

mutual
theorem Rel_mono {ρ : Rho} {ok ok' : Nat → Prop} {w w' : World} (hk : ∀ b, ok b → ok' b) (hw : ∀ b, ok b → w'.heap[b]? = w.heap[b]?) :
    ∀ (x : A) (v : Value), Rel ρ ok w x v → Rel ρ ok' w' x v
  | .d x, v, h => RD_mono hk hw x v h
  | .nilptr, _, h => h
  | .nilsl, _, h => h
  | .niliface, _, h => h
  | .nilfunc, _, h => h
  | .nilmap, _, h => h
  | .ptr _ _, _, h => h
  | .pel _ _ _, _, h => h
  | .dpt x i j, v, ⟨ad, e, hb, hc⟩ => ⟨ad, e, hk _ hb, fun q hq => by
      obtain ⟨u, hu, hr⟩ := hc q hq
      exact ⟨u, (cell?_add _ (hw _ hb)).trans hu, RD_mono hk hw _ _ hr⟩⟩
  | .sl _ _ _, _, h => h
  | .func f l, v, ⟨vs, e, h⟩ => ⟨vs, e, RelL_mono hk hw l _ h⟩
  | .iface t x, v, ⟨u, e, h⟩ => ⟨u, e, Rel_mono hk hw x u h⟩
  | .mp _, _, h => h
  | .agg l, v, ⟨vs, e, h, ho⟩ => ⟨vs, e, RelL_mono hk hw l _ h, ho⟩
  | .tup l, v, ⟨vs, e, h⟩ => ⟨vs, e, RelL_mono hk hw l _ h⟩
  | .any, _, _ => trivial
theorem RelL_mono {ρ : Rho} {ok ok' : Nat → Prop} {w w' : World} (hk : ∀ b, ok b → ok' b) (hw : ∀ b, ok b → w'.heap[b]? = w.heap[b]?) :
    ∀ (l : List A) (vs : List Value), RelL ρ ok w l vs → RelL ρ ok' w' l vs
  | [], [], _ => trivial
  | x :: r, v :: s, h => ⟨Rel_mono hk hw x v h.1, RelL_mono hk hw r s h.2⟩
  | [], _ :: _, h => h.elim
  | _ :: _, [], h => h.elim
end

/-! ### other names -/
mutual
/-- What names' places are apart from n makes no difference behind a kill of n. -/
theorem Rel_kill {ρ ρ' : Rho} {ok : Nat → Prop} {w : World} (n : Nat) (hρ : ∀ m, m ≠ n → ρ' m = ρ m) :
    ∀ (x : A) (v : Value), Rel ρ ok w x v → Rel ρ' ok w (killA n x) v
  | .d x, v, h => h
  | .nilptr, _, h => h
  | .nilsl, _, h => h
  | .niliface, _, h => h
  | .nilfunc, _, h => h
  | .nilmap, _, h => h
  | .ptr k o, v, h => by
    simp only [killA]
    cases e : Nat.beq k n with
    | true => trivial
    | false => simp only [cond_false, Rel] at h ⊢; rw [hρ k (Nat.ne_of_beq_eq_false e)]; exact h
  | .pel k i j, v, h => by
    simp only [killA]
    cases e : Nat.beq k n with
    | true => trivial
    | false => simp only [cond_false, Rel] at h ⊢; rw [hρ k (Nat.ne_of_beq_eq_false e)]; exact h
  | .dpt x i j, v, h => h
  | .sl k o l, v, h => by
    simp only [killA]
    cases e : Nat.beq k n with
    | true => trivial
    | false => simp only [cond_false, Rel] at h ⊢; rw [hρ k (Nat.ne_of_beq_eq_false e)]; exact h
  | .func f l, v, ⟨vs, e, h⟩ => ⟨vs, e, RelL_kill n hρ l _ h⟩
  | .iface t x, v, ⟨u, e, h⟩ => ⟨u, e, Rel_kill n hρ x u h⟩
  | .mp k, v, h => by
    simp only [killA]
    cases e : Nat.beq k n with
    | true => trivial
    | false => simp only [cond_false, Rel] at h ⊢; rw [hρ k (Nat.ne_of_beq_eq_false e)]; exact h
  | .agg l, v, ⟨vs, e, h, ho⟩ => ⟨vs, e, RelL_kill n hρ l _ h, ho⟩
  | .tup l, v, ⟨vs, e, h⟩ => ⟨vs, e, RelL_kill n hρ l _ h⟩
  | .any, _, _ => trivial
theorem RelL_kill {ρ ρ' : Rho} {ok : Nat → Prop} {w : World} (n : Nat) (hρ : ∀ m, m ≠ n → ρ' m = ρ m) :
    ∀ (l : List A) (vs : List Value), RelL ρ ok w l vs → RelL ρ' ok w (killL n l) vs
  | [], [], _ => trivial
  | x :: r, v :: s, h => ⟨Rel_kill n hρ x v h.1, RelL_kill n hρ r s h.2⟩
  | [], _ :: _, h => h.elim
  | _ :: _, [], h => h.elim
end
mutual
/-- Names that are all below nx: the others' places make no difference. -/
theorem Rel_bd {ρ ρ' : Rho} {ok : Nat → Prop} {w : World} (nx : Nat) (hρ : ∀ m, m < nx → ρ' m = ρ m) :
    ∀ (x : A) (v : Value), bdA nx x = true → Rel ρ ok w x v → Rel ρ' ok w x v
  | .d x, v, _, h => h
  | .nilptr, _, _, h => h
  | .nilsl, _, _, h => h
  | .niliface, _, _, h => h
  | .nilfunc, _, _, h => h
  | .nilmap, _, _, h => h
  | .ptr k o, v, hb, h => by simp only [Rel] at h ⊢; rw [hρ k (by simpa [bdA, Nat.blt_eq] using hb)]; exact h
  | .pel k i j, v, hb, h => by simp only [Rel] at h ⊢; rw [hρ k (by simpa [bdA, Nat.blt_eq] using hb)]; exact h
  | .dpt x i j, v, _, h => h
  | .sl k o l, v, hb, h => by simp only [Rel] at h ⊢; rw [hρ k (by simpa [bdA, Nat.blt_eq] using hb)]; exact h
  | .func f l, v, hb, ⟨vs, e, h⟩ => ⟨vs, e, RelL_bd nx hρ l _ hb h⟩
  | .iface t x, v, hb, ⟨u, e, h⟩ => ⟨u, e, Rel_bd nx hρ x u hb h⟩
  | .mp k, v, hb, h => by simp only [Rel] at h ⊢; rw [hρ k (by simpa [bdA, Nat.blt_eq] using hb)]; exact h
  | .agg l, v, hb, ⟨vs, e, h, ho⟩ => ⟨vs, e, RelL_bd nx hρ l _ hb h, ho⟩
  | .tup l, v, hb, ⟨vs, e, h⟩ => ⟨vs, e, RelL_bd nx hρ l _ hb h⟩
  | .any, _, _, _ => trivial
theorem RelL_bd {ρ ρ' : Rho} {ok : Nat → Prop} {w : World} (nx : Nat) (hρ : ∀ m, m < nx → ρ' m = ρ m) :
    ∀ (l : List A) (vs : List Value), bdL nx l = true → RelL ρ ok w l vs → RelL ρ' ok w l vs
  | [], [], _, _ => trivial
  | x :: r, v :: s, hb, h => by
    simp only [bdL, Bool.and_eq_true] at hb
    exact ⟨Rel_bd nx hρ x v hb.1 h.1, RelL_bd nx hρ r s hb.2 h.2⟩
  | [], _ :: _, _, h => h.elim
  | _ :: _, [], _, h => h.elim
end

/-! ### memory -/
def unfr (fz : Nat × Nat) (n : Nat) : Prop := ∀ off, off < n → ¬ (fz.1 ≤ off ∧ off < fz.2)
/-- The block of name n is what o says. -/
def Holds (ρ : Rho) (ok : Nat → Prop) (w : World) (n : Nat) : O → Prop
  | .cells t l => ∃ b arr fz, (ρ n).b = some b ∧ w.heap[b]? = some (.cells arr t fz) ∧ unfr fz arr.size ∧ RelL ρ ok w l arr.toList ∧ ∀ u ∈ arr.toList, one u = true
  | .row t x => x.isSl = true ∧ x.wid = (ρ n).m ∧ x.cnt ≤ 281474976710656 ∧ (match (ρ n).b with
    | none => x.cnt = 0
    | some b => ∃ arr fz, w.heap[b]? = some (.cells arr t fz) ∧ unfr fz arr.size ∧ arr.size = (ρ n).sz ∧ x.cnt * x.wid ≤ arr.size ∧
        ∀ i j, i < x.cnt → j < x.wid → ∃ u, arr[i * x.wid + j]? = some u ∧ RD ok w (x.at i j) u)
  | .vals t m l => ∃ b arr fz, (ρ n).b = some b ∧ m = (ρ n).m ∧ w.heap[b]? = some (.cells arr t fz) ∧ unfr fz arr.size ∧ arr.size = (ρ n).sz ∧ l.length ≤ arr.size ∧
      RelL ρ ok w l (arr.toList.take l.length) ∧ ∀ u ∈ arr.toList.take l.length, one u = true

structure Sat (ρ : Rho) (ok : Nat → Prop) (hp : Heap) (w : World) : Prop where
  inj : ∀ n m o o' b, hget hp n = some o → hget hp m = some o' → (ρ n).b = some b → (ρ m).b = some b → n = m
  lt : ∀ n o b, hget hp n = some o → (ρ n).b = some b → b < w.heap.size
  nok : ∀ n o b, hget hp n = some o → (ρ n).b = some b → ¬ ok b
  oklt : ∀ b, ok b → b < w.heap.size
  obj : ∀ n o, hget hp n = some o → Holds ρ ok w n o

theorem Addr.add_add (a : Addr) (i j : Nat) : (a.add i).add j = a.add (i + j) := by
  unfold Addr.add
  by_cases h1 : i = 0
  · subst h1; simp
  · by_cases h2 : j = 0
    · subst h2; simp [h1]
    · have : ¬ (i + j = 0) := by omega
      simp only [h1, h2, this, if_false, Nat.add_assoc]
theorem addr_add (b o i : Nat) : (⟨b, o, none⟩ : Addr).add i = ⟨b, o + i, none⟩ := by
  unfold Addr.add; split <;> simp_all
theorem cell_at {w : World} {b : Nat} {arr : Array Value} {t : Nat} {fz : Nat × Nat} (h : w.heap[b]? = some (.cells arr t fz)) (o : Nat) :
    w.cell? ⟨b, o, none⟩ = arr[o]? := by simp [World.cell?, h]
end Ax

set_option linter.unusedVariables false
set_option linter.unusedSimpArgs false
namespace Ax
open Go
variable {P : Program} {ρ : Rho} {ok : Nat → Prop} {w : World} {hp : Heap}

def okP : Option Prop → Prop
  | none => True
  | some p => p

/-! ### lists of relations -/
theorem RelL_append {l r : List A} {vs us : List Value} (h : RelL ρ ok w l vs) (h' : RelL ρ ok w r us) : RelL ρ ok w (l ++ r) (vs ++ us) := by
  induction l generalizing vs with
  | nil => cases vs with
    | nil => exact h'
    | cons _ _ => exact h.elim
  | cons x l ih => cases vs with
    | nil => exact h.elim
    | cons v vs => exact ⟨h.1, ih h.2⟩
theorem RelL_drop {l : List A} {vs : List Value} (h : RelL ρ ok w l vs) (n : Nat) : RelL ρ ok w (l.drop n) (vs.drop n) := by
  induction n generalizing l vs with
  | zero => simpa using h
  | succ n ih => cases l with
    | nil => cases vs with
      | nil => exact trivial
      | cons _ _ => exact h.elim
    | cons x l => cases vs with
      | nil => exact h.elim
      | cons v vs => exact ih h.2
theorem RelL_take {l : List A} {vs : List Value} (h : RelL ρ ok w l vs) (n : Nat) : RelL ρ ok w (l.take n) (vs.take n) := by
  induction n generalizing l vs with
  | zero => simp [RelL]
  | succ n ih => cases l with
    | nil => cases vs with
      | nil => exact trivial
      | cons _ _ => exact h.elim
    | cons x l => cases vs with
      | nil => exact h.elim
      | cons v vs => exact ⟨h.1, ih h.2⟩
theorem RelL_get {l : List A} {vs : List Value} (h : RelL ρ ok w l vs) (n : Nat) (x : A) (hx : l[n]? = some x) : ∃ v, vs[n]? = some v ∧ Rel ρ ok w x v := by
  induction l generalizing vs n with
  | nil => simp at hx
  | cons y l ih => cases vs with
    | nil => exact h.elim
    | cons v vs => cases n with
      | zero => simp at hx; subst hx; exact ⟨v, rfl, h.1⟩
      | succ n => simpa using ih h.2 n (by simpa using hx)
theorem RelL_getD {l : List A} {vs : List Value} (h : RelL ρ ok w l vs) (n : Nat) (hn : n < l.length) : ∃ v, vs[n]? = some v ∧ Rel ρ ok w (l.getD n .any) v :=
  RelL_get h n _ (by simp [List.getD, List.getElem?_eq_getElem hn])
theorem RelL_of {l : List A} {vs : List Value} (hl : l.length = vs.length) (h : ∀ (i : Nat) (x : A) (v : Value), l[i]? = some x → vs[i]? = some v → Rel ρ ok w x v) : RelL ρ ok w l vs := by
  induction l generalizing vs with
  | nil => cases vs with
    | nil => exact trivial
    | cons _ _ => simp at hl
  | cons x l ih => cases vs with
    | nil => simp at hl
    | cons v vs => exact ⟨h 0 x v rfl rfl, ih (by simpa using hl) fun i x v hx hv => h (i + 1) x v (by simpa using hx) (by simpa using hv)⟩

/-! ### types -/
theorem run_agO {t : Nat} {ag : Bool} (h : agO P t = some ag) (w : World) : (isAgg t).run P w = .ok ag w := by
  unfold agO at h
  cases hu : P.underlying t with
  | none => simp [hu] at h
  | some d =>
    simp only [isAgg, Sem.run_bind, run_underlying hu, Result.andThen_ok]
    cases d <;> simp [hu] at h <;> subst h <;> rfl
theorem run_szO {t : Nat} {sz : Nat} (h : szO P t = some sz) (w : World) : (Go.sizeOf t).run P w = .ok sz w := by
  unfold szO at h
  cases hi : P.info? t with
  | none => simp [hi] at h
  | some i => simp [hi] at h; subst h; simp [Go.sizeOf, typeInfo, hi]
theorem underlying_of_elT {t e : Nat} (h : elT P t = some e) : P.underlying t = some (.slice e) := by
  unfold elT at h
  split at h
  · rename_i e' hu; simp at h; subst h; exact hu
  · simp at h
theorem fields_get {t f : Nat} {fd : Field} (h : (fields P t)[f]? = some fd) : ∃ fs, P.underlying t = some (.struct fs) ∧ fs[f]? = some fd := by
  unfold fields at h
  split at h
  · rename_i fs hu; exact ⟨fs, hu, by simpa using h⟩
  · simp at h

/-! ### loads -/
theorem run_load_some {a : Addr} {v : Value} (h : w.cell? a = some v) : (load a).run P w = .ok v w := by simp [h]
theorem run_loadVar_one {t : Nat} {a : Addr} {v : Value} {sz : Nat} (hg : agO P t = some false) (h : w.cell? a = some v) : (loadVar t a).run P w = .ok v w := by
  simp only [loadVar, Sem.run_bind, run_agO hg, Result.andThen_ok]
  simp [h]
theorem run_loadVar_agg {t : Nat} {a : Addr} {vs : List Value} {sz : Nat} (hg : agO P t = some true) (hs : szO P t = some sz) (hl : vs.length = sz)
    (h : ∀ j v, vs[j]? = some v → w.cell? (a.add j) = some v) : (loadVar t a).run P w = .ok (.agg vs.toArray) w := by
  simp only [loadVar, Sem.run_bind, run_agO hg, Result.andThen_ok, if_true, run_szO hs]
  rw [← hl, run_loadCells_list w a vs h]
  rfl
theorem one_RD {x : D} {v : Value} (h : RD ok w x v) : one v = true := by
  cases x with
  | bool b => obtain rfl := h; rfl
  | int k n => obtain rfl := h; rfl
  | str s => obtain ⟨rfl, _⟩ := h; rfl
  | strs l => obtain ⟨a, cp, rfl, _⟩ := h; rfl
  | ints k l => obtain ⟨a, cp, rfl, _⟩ := h; rfl
  | recs m n c => obtain ⟨a, cp, rfl, _⟩ := h; rfl

/-- Cells from an address on, as one value. -/
theorem load_cells {t : Nat} {a : Addr} {ag : Bool} {sz : Nat} {l : List A} {vs : List Value} (hg : agO P t = some ag) (hs : szO P t = some sz)
    (hr : RelL ρ ok w l vs) (ho : ∀ u ∈ vs, one u = true) (off : Nat) (hn : off + (bif ag then sz else 1) ≤ l.length) (h : ∀ j v, vs[off + j]? = some v → w.cell? (a.add j) = some v) :
    ∃ u, (loadVar t a).run P w = .ok u w ∧ Rel ρ ok w (rdCells ag sz l off) u := by
  have hlen := RelL_len hr
  cases ag with
  | true =>
    simp only [cond_true] at hn
    refine ⟨.agg ((vs.drop off).take sz).toArray, run_loadVar_agg hg hs (by simp; omega) (fun j v hv => ?_), ?_⟩
    · rw [List.getElem?_take] at hv
      split at hv
      · rw [List.getElem?_drop] at hv; exact h j v hv
      · simp at hv
    · refine ⟨_, rfl, ?_, fun u hu => ho u (List.mem_of_mem_drop (List.mem_of_mem_take (by simpa using hu)))⟩
      exact RelL_take (RelL_drop hr off) sz
  | false =>
    simp only [cond_false] at hn
    obtain ⟨v, hv, hrv⟩ := RelL_getD hr off (by omega)
    exact ⟨v, run_loadVar_one (sz := sz) hg (by have := h 0 v (by simpa using hv); rwa [Addr.add, if_pos rfl] at this), hrv⟩

theorem load_el {t : Nat} {a : Addr} {ag : Bool} {sz : Nat} {x : D} {i j : Nat} (hg : agO P t = some ag) (hs : szO P t = some sz) (hn : j + (bif ag then sz else 1) ≤ x.wid)
    (h : ∀ q, j + q < x.wid → ∃ u, w.cell? (a.add q) = some u ∧ RD ok w (x.at i (j + q)) u) :
    ∃ u, (loadVar t a).run P w = .ok u w ∧ Rel ρ ok w (rdEl ag sz x i j) u := by
  cases ag with
  | true =>
    simp only [cond_true] at hn
    have hex : ∃ f : Nat → Value, ∀ q, q < sz → w.cell? (a.add q) = some (f q) ∧ RD ok w (x.at i (j + q)) (f q) := by
      refine ⟨fun q => (w.cell? (a.add q)).getD undef, fun q hq => ?_⟩
      obtain ⟨u, hu, hr⟩ := h q (by omega)
      simp [hu, hr]
    obtain ⟨f, hf⟩ := hex
    refine ⟨.agg ((List.range sz).map f).toArray, run_loadVar_agg hg hs (by simp) (fun q v hv => ?_), _, rfl, ?_, ?_⟩
    · rw [List.getElem?_map] at hv
      by_cases hq : q < sz
      · simp [List.getElem?_range hq] at hv; subst hv; exact (hf q hq).1
      · simp [List.getElem?_eq_none (show (List.range sz).length ≤ q by simp; omega)] at hv
    · refine RelL_of (by simp) fun q y v hy hv => ?_
      by_cases hq : q < sz
      · simp [List.getElem?_range hq] at hy hv
        subst hy; subst hv
        exact (hf q hq).2
      · simp [List.getElem?_eq_none (show (List.range sz).length ≤ q by simp; omega)] at hy
    · intro u hu
      simp at hu
      obtain ⟨q, hq, rfl⟩ := hu
      exact one_RD (hf q hq).2
  | false =>
    simp only [cond_false] at hn
    obtain ⟨u, hu, hr⟩ := h 0 (by omega)
    exact ⟨u, run_loadVar_one (sz := sz) hg (by rwa [Addr.add, if_pos rfl] at hu), hr⟩

theorem load_ok (S : Sat ρ ok hp w) {t : Nat} {x v : A} {p : Option Prop} {a : Value} (h : loadA P t hp x = some (p, v)) (hP : okP p) (hr : Rel ρ ok w x a) :
    ∃ u, (Instr.loadAt t a).run P w = .ok u w ∧ Rel ρ ok w v u := by
  unfold loadA at h
  cases hg : agO P t with
  | none => simp [hg] at h
  | some ag => cases hs : szO P t with
    | none => simp [hg, hs] at h
    | some sz =>
      simp only [hg, hs] at h
      cases x with
      | ptr n off =>
        simp only at h
        cases ho : hget hp n with
        | none => simp [ho] at h
        | some o => cases o with
          | cells ty l =>
            simp only [ho] at h
            cases hb : Nat.ble (off + (bif ag then sz else 1)) l.length with
            | false => simp [hb] at h
            | true =>
              simp [hb] at h
              obtain ⟨rfl, rfl⟩ := h
              obtain ⟨b, arr, fz, eb, hh, hu, hrl, hone⟩ := S.obj n _ ho
              obtain ⟨b', eb', rfl⟩ := hr
              obtain rfl : b = b' := by rw [eb] at eb'; exact Option.some.inj eb'
              simp only [Instr.loadAt, Instr.sureAddr, Sem.run_bind, Sem.run_pure, Result.andThen_ok]
              refine load_cells hg hs hrl hone off (Nat.le_of_ble_eq_true hb) fun j v hv => ?_
              rw [addr_add, cell_at hh]
              simpa using hv
          | row _ _ => simp [ho] at h
          | vals _ _ _ => simp [ho] at h
      | pel n i j =>
        simp only at h
        cases ho : hget hp n with
        | none => simp [ho] at h
        | some o => cases o with
          | cells ty l => simp [ho] at h
          | row ty y =>
            simp only [ho] at h
            cases hb : Nat.ble (j + (bif ag then sz else 1)) y.wid with
            | false => simp [hb] at h
            | true =>
              simp [hb] at h
              obtain ⟨rfl, rfl⟩ := h
              obtain ⟨hsl, hm, hc, hrow⟩ := S.obj n _ ho
              obtain ⟨b, eb, rfl⟩ := hr
              rw [eb] at hrow
              obtain ⟨arr, fz, hh, hu, hsz, hcw, hcell⟩ := hrow
              simp only [Instr.loadAt, Instr.sureAddr, Sem.run_bind, Sem.run_pure, Result.andThen_ok]
              refine load_el hg hs (Nat.le_of_ble_eq_true hb) fun q hq => ?_
              obtain ⟨u, hu1, hu2⟩ := hcell i (j + q) hP hq
              refine ⟨u, ?_, hu2⟩
              rw [addr_add, cell_at hh, ← hm, Nat.add_assoc]
              exact hu1
          | vals ty m l =>
            simp only [ho] at h
            cases hb : Nat.ble (i * m + j + (bif ag then sz else 1)) l.length with
            | false => simp [hb] at h
            | true =>
              simp [hb] at h
              obtain ⟨rfl, rfl⟩ := h
              obtain ⟨b, arr, fz, eb, hm, hh, hu, hsz, hle, hrl, hone⟩ := S.obj n _ ho
              obtain ⟨b', eb', rfl⟩ := hr
              obtain rfl : b = b' := by rw [eb] at eb'; exact Option.some.inj eb'
              simp only [Instr.loadAt, Instr.sureAddr, Sem.run_bind, Sem.run_pure, Result.andThen_ok]
              refine load_cells hg hs hrl hone (i * m + j) (Nat.le_of_ble_eq_true hb) fun q v hv => ?_
              rw [addr_add, cell_at hh, ← hm]
              rw [List.getElem?_take] at hv
              split at hv
              · simpa using hv
              · simp at hv
      | dpt y i j =>
        simp only at h
        cases hb : Nat.ble (j + (bif ag then sz else 1)) y.wid with
        | false => simp [hb] at h
        | true =>
          simp [hb] at h
          obtain ⟨rfl, rfl⟩ := h
          obtain ⟨ad, rfl, hok, hc⟩ := hr
          simp only [Instr.loadAt, Instr.sureAddr, Sem.run_bind, Sem.run_pure, Result.andThen_ok]
          exact load_el hg hs (Nat.le_of_ble_eq_true hb) hc
      | _ => simp at h
end Ax

set_option linter.unusedVariables false
set_option linter.unusedSimpArgs false
namespace Ax
open Go
variable {P : Program} {ρ : Rho} {ok : Nat → Prop} {w : World} {hp : Heap}

theorem field_ok {t f : Nat} {x v : A} {a : Value} (h : fieldA P t x f = some v) (hr : Rel ρ ok w x a) :
    ∃ u, (Instr.fieldAt t a f).run P w = .ok u w ∧ Rel ρ ok w v u := by
  unfold fieldA at h
  cases hf : (fields P t)[f]? with
  | none => simp [hf] at h
  | some fd =>
    obtain ⟨fs, hu, hfs⟩ := fields_get hf
    cases hs : szO P fd.type with
    | none => simp [hf, hs] at h
    | some n => cases n with
      | zero => simp [hf, hs] at h
      | succ n =>
        simp only [hf, hs] at h
        have hpl : ∀ ad : Addr, (fieldPlace ad fd).run P w = .ok (ad.add fd.offset) w := fun ad => by
          simp [fieldPlace, run_szO hs]
        have key : ∀ ad : Addr, (Instr.fieldAt t (.pointer (some ad)) f).run P w = .ok (.pointer (some (ad.add fd.offset))) w := fun ad => by
          simp [Instr.fieldAt, run_underlying hu, hfs, Instr.sureAddr, hpl]
        cases x with
        | ptr m off =>
          simp at h; subst h
          obtain ⟨b, eb, rfl⟩ := hr
          exact ⟨_, key _, b, eb, by rw [addr_add]⟩
        | pel m i j =>
          simp at h; subst h
          obtain ⟨b, eb, rfl⟩ := hr
          exact ⟨_, key _, b, eb, by rw [addr_add, Nat.add_assoc]⟩
        | dpt y i j =>
          simp at h; subst h
          obtain ⟨ad, rfl, hok, hc⟩ := hr
          refine ⟨_, key _, ad.add fd.offset, rfl, by rw [Addr.add_block]; exact hok, fun q hq => ?_⟩
          obtain ⟨u, hu1, hu2⟩ := hc (fd.offset + q) (by omega)
          exact ⟨u, by rw [Addr.add_add]; exact hu1, by rw [Nat.add_assoc]; exact hu2⟩
        | _ => simp at h

theorem sameN_spec {a b : Option Nat} (h : sameN a b = true) : ∃ n, a = some n ∧ b = some n := by
  unfold sameN at h
  cases a <;> cases b <;> simp at h
  subst h
  exact ⟨_, rfl, rfl⟩
theorem widH_spec {n m : Nat} (S : Sat ρ ok hp w) (h : widH hp n = some m) : (ρ n).m = m := by
  unfold widH at h
  cases ho : hget hp n with
  | none => simp [ho] at h
  | some o => cases o with
    | cells _ _ => simp [ho] at h
    | row ty y => simp [ho] at h; subst h; exact (S.obj n _ ho).2.1.symm
    | vals ty m' l =>
      simp [ho] at h; subst h
      obtain ⟨b, arr, fz, eb, hm, _⟩ := S.obj n _ ho
      exact hm.symm

theorem indexAddr_ok (S : Sat ρ ok hp w) {t : Nat} {x ix v : A} {p : Option Prop} {a c : Value} (h : indexAddrA P t hp x ix = some (p, v)) (hP : okP p)
    (hr : Rel ρ ok w x a) (hi : Rel ρ ok w ix c) : ∃ u, (Instr.indexAt t a c).run P w = .ok u w ∧ Rel ρ ok w v u := by
  unfold indexAddrA at h
  cases ix with
  | d y => cases y with
    | int k i =>
      obtain rfl := hi
      simp only at h
      cases hu : P.underlying t with
      | none => simp [hu] at h
      | some d => cases d with
        | slice e =>
          simp only [hu] at h
          cases x with
          | sl n off len =>
            simp only at h
            cases hs : sameN (widH hp n) (szO P e) with
            | false => simp [hs] at h
            | true =>
              simp [hs] at h
              obtain ⟨rfl, rfl⟩ := h
              obtain ⟨m, hm, hz⟩ := sameN_spec hs
              have hm' := widH_spec S hm
              obtain ⟨h0, h1⟩ : 0 ≤ i ∧ i < len := hP
              simp only [Rel] at hr
              cases hb : (ρ n).b with
              | none => rw [hb] at hr; obtain ⟨_, rfl, _⟩ := hr; omega
              | some b =>
                rw [hb] at hr
                obtain ⟨ad, cp, rfl, hlc, hsz, had⟩ := hr
                obtain rfl := had (by omega)
                refine ⟨.pointer (some ⟨b, (off + i.toNat) * (ρ n).m + 0, none⟩), ?_, b, hb, rfl⟩
                simp [Instr.indexAt, asIntOf, run_underlying hu, h0, h1, run_szO hz, addr_add, hm', Nat.add_mul]
          | d y =>
            simp only at h
            cases hs : (y.isSl && sameN (some y.wid) (szO P e)) with
            | false => simp [hs] at h
            | true =>
              simp [hs] at h
              obtain ⟨rfl, rfl⟩ := h
              simp only [Bool.and_eq_true] at hs
              obtain ⟨m, hm, hz⟩ := sameN_spec hs.2
              simp at hm; subst hm
              obtain ⟨h0, h1⟩ : 0 ≤ i ∧ i < y.cnt := hP
              obtain ⟨a', cp, rfl, _, _, hc⟩ := (RD_sl hs.1).1 hr
              obtain ⟨ad, rfl, hok, hc⟩ := hc (by omega)
              refine ⟨.pointer (some (ad.add (i.toNat * y.wid))), ?_, _, rfl, by rw [Addr.add_block]; exact hok, fun q hq => ?_⟩
              · simp [Instr.indexAt, asIntOf, run_underlying hu, h0, h1, run_szO hz]
              · obtain ⟨u, hu1, hu2⟩ := hc i.toNat q (by omega) (by omega)
                exact ⟨u, by rw [Addr.add_add]; exact hu1, by simpa using hu2⟩
          | _ => simp at h
        | array len e =>
          simp only [hu] at h
          cases x with
          | ptr n off =>
            simp only at h
            cases hz : szO P e with
            | none => simp [hz] at h
            | some sz =>
              simp [hz] at h
              obtain ⟨rfl, rfl⟩ := h
              obtain ⟨h0, h1⟩ : 0 ≤ i ∧ i < len := hP
              obtain ⟨b, eb, rfl⟩ := hr
              refine ⟨.pointer (some ⟨b, off + i.toNat * sz, none⟩), ?_, b, eb, rfl⟩
              simp [Instr.indexAt, Instr.sureAddr, asIntOf, run_underlying hu, h0, h1, run_szO hz, addr_add]
          | pel n k' j =>
            cases j with
            | zero =>
              simp only at h
              cases hs : sameN (widH hp n) (szO P e) with
              | false => simp [hs] at h
              | true =>
                simp [hs] at h
                obtain ⟨rfl, rfl⟩ := h
                obtain ⟨m, hm, hz⟩ := sameN_spec hs
                have hm' := widH_spec S hm
                obtain ⟨h0, h1⟩ : 0 ≤ i ∧ i < len := hP
                obtain ⟨b, eb, rfl⟩ := hr
                refine ⟨.pointer (some ⟨b, (k' + i.toNat) * (ρ n).m + 0, none⟩), ?_, b, eb, rfl⟩
                simp [Instr.indexAt, Instr.sureAddr, asIntOf, run_underlying hu, h0, h1, run_szO hz, addr_add, hm', Nat.add_mul]
            | succ _ => simp at h
          | _ => simp at h
        | _ => simp [hu] at h
    | _ => simp at h
  | _ => simp at h

theorem part_ok {t off : Nat} {l : List A} {v : A} {vs : Array Value} (h : partA P t l off = some v) (hr : RelL ρ ok w l vs.toList) (ho : ∀ u ∈ vs.toList, one u = true) :
    ∃ u, (part t vs off).run P w = .ok u w ∧ Rel ρ ok w v u := by
  unfold partA at h
  have hlen := RelL_len hr
  cases hg : agO P t with
  | none => simp [hg] at h
  | some ag => cases hs : szO P t with
    | none => cases ag <;> simp [hg, hs] at h
    | some sz => cases ag with
      | true =>
        simp only [hg, hs] at h
        cases hb : Nat.ble (off + sz) l.length with
        | false => simp [hb] at h
        | true =>
          simp [hb] at h; subst h
          refine ⟨.agg (vs.extract off (off + sz)), by simp [part, run_agO hg, run_szO hs], _, rfl, ?_, ?_⟩
          · have := RelL_take (RelL_drop hr off) sz
            simpa [List.extract_eq_take_drop] using this
          · intro u hu
            simp [List.extract_eq_take_drop] at hu
            exact ho u (List.mem_of_mem_drop (List.mem_of_mem_take hu))
      | false =>
        simp only [hg, hs] at h
        obtain ⟨u, hu, hru⟩ := RelL_get hr off v h
        refine ⟨u, ?_, hru⟩
        have hu' : vs[off]? = some u := by simpa using hu
        simp [part, run_agO hg, hu']

theorem fieldVal_ok {t f : Nat} {x v : A} {a : Value} (h : fieldVal P t x f = some v) (hr : Rel ρ ok w x a) :
    ∃ u, (Instr.field t a f).run P w = .ok u w ∧ Rel ρ ok w v u := by
  unfold fieldVal at h
  cases hf : (fields P t)[f]? with
  | none => simp [hf] at h
  | some fd =>
    obtain ⟨fs, hu, hfs⟩ := fields_get hf
    cases x with
    | agg l =>
      simp only [hf] at h
      obtain ⟨vs, rfl, hrl, ho⟩ := hr
      obtain ⟨u, hu1, hu2⟩ := part_ok h hrl ho
      exact ⟨u, by simp [Instr.field, run_underlying hu, hfs, asAgg, hu1], hu2⟩
    | _ => simp [hf] at h

theorem indexVal_ok {t : Nat} {x ix v : A} {p : Option Prop} {a c : Value} (h : indexVal P t x ix = some (p, v)) (hP : okP p)
    (hr : Rel ρ ok w x a) (hi : Rel ρ ok w ix c) : ∃ u, (Instr.index t a c).run P w = .ok u w ∧ Rel ρ ok w v u := by
  unfold indexVal at h
  cases ix with
  | d y => cases y with
    | int k i =>
      obtain rfl := hi
      cases x with
      | d z => cases z with
        | str s =>
          simp only at h
          cases hu : P.underlying t with
          | none => simp [hu] at h
          | some d => cases d with
            | string =>
              simp [hu] at h
              obtain ⟨rfl, rfl⟩ := h
              obtain ⟨h0, h1⟩ : 0 ≤ i ∧ i < s.length := hP
              obtain ⟨rfl, _⟩ := hr
              have hlt : i.toNat < s.length := by omega
              refine ⟨.int .u8 (byteAt s i.toNat), ?_, rfl⟩
              have : (⟨s.toArray⟩ : ByteArray)[i.toNat]? = some (s.getD i.toNat 0) := by
                have hs : (⟨s.toArray⟩ : ByteArray).size = s.length := by simp [ByteArray.size]
                rw [getElem?_pos _ _ (by rw [hs]; exact hlt)]
                simp [List.getD, List.getElem?_eq_getElem hlt, ByteArray.getElem_eq_getElem_data]
              simp [Instr.index, asIntOf, run_underlying hu, strV, h0, this, byteAt]
            | _ => simp [hu] at h
        | _ => simp at h
      | agg l =>
        simp only at h
        cases hu : P.underlying t with
        | none => simp [hu] at h
        | some d => cases d with
          | array len e =>
            simp only [hu] at h
            cases hz : szO P e with
            | none => simp [hz] at h
            | some sz =>
              simp only [hz, Option.map_eq_some_iff, Prod.mk.injEq] at h
              obtain ⟨v', hv, rfl, rfl⟩ := h
              obtain ⟨h0, h1⟩ : 0 ≤ i ∧ i < len := hP
              obtain ⟨vs, rfl, hrl, ho⟩ := hr
              obtain ⟨u, hu1, hu2⟩ := part_ok hv hrl ho
              exact ⟨u, by simp [Instr.index, asIntOf, run_underlying hu, h0, h1, run_szO hz, hu1], hu2⟩
          | _ => simp [hu] at h
      | _ => simp at h
    | _ => simp at h
  | _ => simp at h
end Ax
