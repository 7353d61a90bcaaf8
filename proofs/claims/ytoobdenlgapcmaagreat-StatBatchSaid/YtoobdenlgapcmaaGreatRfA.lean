/- The evaluator of Go code over deep values, and what it says of the machine's values. -/
import Derived.Calls
import Derived.Orders
import Derived.Sort.Defs
import Derived.Lib.BitFns
import Derived.Below
import Derived.Laws.AppendOwn
import Derived.Laws.CopyRow
import Derived.Laws.Cells
set_option linter.unusedVariables false
set_option linter.unusedSimpArgs false
set_option linter.unusedSectionVars false
/- The evaluator: Go code over deep values. Types of cells, values, blocks; what each operation comes to; code. -/
namespace Go.Rf

/-! ### Types of cells, and what they hold -/
inductive Ty where
  | int (k : IntKind)
  | bool
  | str
  | sl (t : Ty)
  | pair (a b : Ty)
  deriving DecidableEq

@[reducible] def Ty.den : Ty → Type
  | .int _ => Int
  | .bool => Bool
  | .str => List UInt8
  | .sl t => List t.den
  | .pair a b => a.den × b.den

/-- How many cells. -/
def Ty.size : Ty → Nat
  | .pair a b => a.size + b.size
  | _ => 1

def Ty.dflt : (t : Ty) → t.den
  | .int _ => (0 : Int)
  | .bool => false
  | .str => ([] : List UInt8)
  | .sl _ => []
  | .pair a b => (a.dflt, b.dflt)

/-- No slice in it. -/
def Ty.flat : Ty → Bool
  | .sl _ => false
  | .pair a b => a.flat && b.flat
  | _ => true

/-! ### Deep values -/
/-- What is known of one cell's value. -/
inductive CV where
  | any
  | undef
  | v (t : Ty) (x : t.den)
  | ptr (b off : Nat)
  | eptr (b n i off : Nat)
  | rptr (t : Ty) (x : t.den) (off : Nat)
  | own (b n : Nat)
  | nilsl
  | nilptr
  | nilfn
  | fn (f : FuncId) (cap : List (Nat × Nat))
  | slc (b n : Nat)
  | selfp (b off : Nat)

inductive SV where
  | c (x : CV)
  | agg (cs : List CV)

inductive AV where
  | s (x : SV)
  | tup (vs : List SV)

abbrev AV.cv (x : CV) : AV := .s (.c x)
abbrev AV.v (t : Ty) (x : t.den) : AV := .s (.c (.v t x))
abbrev AV.int (k : IntKind) (x : Int) : AV := .s (.c (.v (.int k) x))
abbrev AV.bool (x : Bool) : AV := .s (.c (.v .bool x))
abbrev AV.str (x : List UInt8) : AV := .s (.c (.v .str x))

def SV.cells : SV → List CV
  | .c x => [x]
  | .agg cs => cs

/-- A block of the store. -/
inductive Blk where
  | cells (T : TypeId) (cs : List CV)
  | row (ver : Nat) (e : TypeId) (t : Ty) (xs : List t.den)
  | frz (ver : Nat) (t : Ty) (xs : List t.den)
  | arr (T : TypeId) (t : Ty) (xs : List t.den)
  | iter (s : List UInt8) (pos : Int)
  | dead

structure St where
  sl : List AV
  st : List Blk

/-! ### The table of types -/
inductive TD where
  | int (k : IntKind)
  | bool
  | str
  | slice (e : TypeId)
  | array (n : Nat) (e : TypeId)
  | struct (fs : List (TypeId × Nat × Bool))
  | ptr (e : TypeId)
  | func
  | other
  deriving DecidableEq

structure TI where
  td : TD
  size : Nat
  bytes : Nat
  ty : Option Ty
  zero : List CV

abbrev TT := List (TypeId × TI)
def TT.get : TT → TypeId → Option TI
  | [], _ => none
  | (k, i) :: r, t => bif Nat.beq k t then some i else TT.get r t

def TI.agg (i : TI) : Bool :=
  match i.td with
  | .array _ _ => true
  | .struct _ => true
  | _ => false

/-! ### Cells and typed values -/
def explode : (t : Ty) → t.den → List CV
  | .pair a b, x => explode a x.1 ++ explode b x.2
  | .int k, x => [.v (.int k) x]
  | .bool, x => [.v .bool x]
  | .str, x => [.v .str x]
  | .sl t, x => [.v (.sl t) x]

/-- A cell as a value of a type; a row is looked up. -/
def one (st : List Blk) (t : Ty) (c : CV) : Option t.den :=
  match c with
  | .v t' x => if h : t' = t then some (h ▸ x) else none
  | .own b n =>
    match st[b]? with
    | some (.row ver _ t' xs) => bif Nat.beq ver n then (if h : Ty.sl t' = t then some (h ▸ (show (Ty.sl t').den from xs)) else none) else none
    | some (.frz ver t' xs) => bif Nat.beq ver n then (if h : Ty.sl t' = t then some (h ▸ (show (Ty.sl t').den from xs)) else none) else none
    | _ => none
  | .nilsl =>
    match t with
    | .sl t' => some ([] : List t'.den)
    | _ => none
  | _ => none

def implode (st : List Blk) : (t : Ty) → List CV → Option (t.den × List CV)
  | .pair a b, cs =>
    match implode st a cs with
    | some (x, r) => match implode st b r with
      | some (y, r') => some ((x, y), r')
      | none => none
    | none => none
  | .int k, c :: r => match one st (.int k) c with
    | some x => some (x, r)
    | none => none
  | .bool, c :: r => match one st .bool c with
    | some x => some (x, r)
    | none => none
  | .str, c :: r => match one st .str c with
    | some x => some (x, r)
    | none => none
  | .sl t, c :: r => match one st (.sl t) c with
    | some x => some (x, r)
    | none => none
  | _, [] => none

/-- The whole of it. -/
def implodeAll (st : List Blk) (t : Ty) (cs : List CV) : Option t.den :=
  match implode st t cs with
  | some (x, []) => some x
  | _ => none

def implodeRows (st : List Blk) (t : Ty) : Nat → List CV → Option (List t.den)
  | 0, [] => some []
  | 0, _ :: _ => none
  | n + 1, cs => match implode st t cs with
    | some (x, r) => match implodeRows st t n r with
      | some xs => some (x :: xs)
      | none => none
    | none => none

/-- Rows that are handed away for good: from here on they are read alone. -/
def frzAll (rb : Nat → Bool) : List CV → List Blk → Option (List Blk)
  | [], st => some st
  | .own b n :: r, st =>
    match st[b]? with
    | some (.row ver _ t xs) => bif Nat.beq ver n && !rb b then frzAll rb r (st.set b (.frz ver t xs)) else none
    | some (.frz ver _ _) => bif Nat.beq ver n then frzAll rb r st else none
    | _ => none
  | _ :: r, st => frzAll rb r st

/-! ### Operands -/
def constV : Value → AV
  | .int k n => .int k n
  | .bool b => .bool b
  | .string s => .str s.data.toList
  | .slice none 0 0 => .cv .nilsl
  | .pointer none => .cv .nilptr
  | .nilFunc => .cv .nilfn
  | _ => .cv .any

def opd (s : St) : Operand → AV
  | .tmp t => s.sl.getD t (.cv .undef)
  | .const v => constV v
  | .func f => .cv (.fn f [])
  | .global _ => .cv .any

/-! ### Operations that only compute: a test that has to hold, and the value -/
def bitOp (op : BinOp) (k : IntKind) (x y : Int) : Int :=
  match op with
  | .and => k.wrap ((BitVec.ofInt k.bits x &&& BitVec.ofInt k.bits y).toNat : Int)
  | .or => k.wrap ((BitVec.ofInt k.bits x ||| BitVec.ofInt k.bits y).toNat : Int)
  | .xor => k.wrap ((BitVec.ofInt k.bits x ^^^ BitVec.ofInt k.bits y).toNat : Int)
  | _ => k.wrap ((BitVec.ofInt k.bits x &&& ~~~(BitVec.ofInt k.bits y)).toNat : Int)

def binI (op : BinOp) (k : IntKind) (a b : Int) : Option (Bool × AV) :=
  match op with
  | .add => some (true, .int k (k.wrap (a + b)))
  | .sub => some (true, .int k (k.wrap (a - b)))
  | .mul => some (true, .int k (k.wrap (a * b)))
  | .quo => some (b != 0, .int k (k.wrap (a.tdiv b)))
  | .rem => some (b != 0, .int k (a.tmod b))
  | .and => some (true, .int k (bitOp .and k a b))
  | .or => some (true, .int k (bitOp .or k a b))
  | .xor => some (true, .int k (bitOp .xor k a b))
  | .andNot => some (true, .int k (bitOp .andNot k a b))
  | .eql => some (true, .bool (a == b))
  | .neq => some (true, .bool (a != b))
  | .lss => some (true, .bool (decide (a < b)))
  | .leq => some (true, .bool (decide (a ≤ b)))
  | .gtr => some (true, .bool (decide (a > b)))
  | .geq => some (true, .bool (decide (a ≥ b)))
  | _ => none

def shiftI (op : BinOp) (k : IntKind) (x y : Int) : Option (Bool × AV) :=
  match op with
  | .shl => some (decide (0 ≤ y), .int k (k.wrap (x * 2 ^ (min y.toNat k.bits))))
  | .shr => some (decide (0 ≤ y), .int k (x.fdiv (2 ^ (min y.toNat k.bits))))
  | _ => none

def LIM : Nat := 140737488355328

def binS (op : BinOp) (x y : List UInt8) : Option (Bool × AV) :=
  match op with
  | .add => some (decide (x.length + y.length ≤ LIM), .str (x ++ y))
  | .eql => some (true, .bool (x == y))
  | .neq => some (true, .bool !(x == y))
  | .lss => some (true, .bool (Op.bytesLess x y))
  | .leq => some (true, .bool (Op.bytesLess x y || x == y))
  | .gtr => some (true, .bool !(Op.bytesLess x y || x == y))
  | .geq => some (true, .bool !(Op.bytesLess x y))
  | _ => none

def eqFs (tt : TT) (chk : TypeId → Option (List TD)) (size : Nat) : List (TypeId × Nat × Bool) → Nat → Option (List TD)
  | [], off => bif Nat.beq off size then some [] else none
  | (T', o, blank) :: r, off =>
    bif !blank && Nat.beq o off then
      match chk T', tt.get T' with
      | some l, some i' => match eqFs tt chk size r (off + i'.size) with
        | some l' => some (l ++ l')
        | none => none
      | _, _ => none
    else none

/-- Types that are compared cell by cell, from the first to the last: the cells' types. -/
def eqTds (tt : TT) : Nat → TypeId → Option (List TD)
  | 0, _ => none
  | d + 1, T =>
    match tt.get T with
    | some i =>
      match i.td with
      | .int k => some [.int k]
      | .bool => some [.bool]
      | .str => some [.str]
      | .struct fs => eqFs tt (eqTds tt d) i.size fs 0
      | .array n e =>
        match eqTds tt d e, tt.get e with
        | some l, some j => bif Nat.beq i.size (n * j.size) then some (List.replicate n l).flatten else none
        | _, _ => none
      | _ => none
    | none => none

def eqCell : TD → CV → CV → Option Bool
  | .int _, .v (.int k) x, .v (.int k') y => if k = k' then some (x == y) else none
  | .bool, .v .bool x, .v .bool y => some (x == y)
  | .str, .v .str x, .v .str y => some (x == y)
  | _, _, _ => none

def eqCells : List TD → List CV → List CV → Option Bool
  | [], [], [] => some true
  | t :: ts, c :: r, d :: r' =>
    match eqCell t c d with
    | some e => (match eqCells ts r r' with
      | some e' => some (e && e')
      | none => none)
    | none => none
  | _, _, _ => none

def eqB (op : BinOp) (e : Bool) : Option (Bool × AV) :=
  match op with
  | .eql => some (true, .bool e)
  | .neq => some (true, .bool !e)
  | _ => none

def isNonNil (st : List Blk) : CV → Bool
  | .ptr _ _ => true
  | .eptr b n _ _ => match st[b]? with
    | some (.arr _ _ _) => true
    | some (.row ver _ _ _) => Nat.beq ver n
    | _ => false
  | .rptr _ _ _ => true
  | _ => false

def isAggT (tt : TT) (T : TypeId) : Bool := match tt.get T with
  | some i => i.agg
  | none => false

def binA (tt : TT) (st : List Blk) (op : BinOp) (T : TypeId) (x y : AV) : Option (Bool × AV) :=
  match x, y with
  | .s (.c (.v (.int k) a)), .s (.c (.v (.int k') b)) =>
    match op with
    | .shl => shiftI .shl k a b
    | .shr => shiftI .shr k a b
    | _ => if k = k' then binI op k a b else none
  | .s (.c (.v .bool a)), .s (.c (.v .bool b)) =>
    match tt.get T with
    | some ⟨.bool, _, _, _, _⟩ => eqB op (a == b)
    | _ => none
  | .s (.c (.v .str a)), .s (.c (.v .str b)) => binS op a b
  | .s (.agg xs), .s (.agg ys) =>
    bif isAggT tt T then
      match eqTds tt 12 T with
      | some l => match eqCells l xs ys with
        | some e => eqB op e
        | none => none
      | none => none
    else none
  | .s (.c p), .s (.c .nilptr) =>
    match tt.get T with
    | some ⟨.ptr _, _, _, _, _⟩ => bif isNonNil st p then eqB op false else none
    | _ => none
  | _, _ => none

def unA (op : UnOp) (x : AV) : Option (Bool × AV) :=
  match op, x with
  | .neg, .s (.c (.v (.int k) a)) => some (true, .int k (k.wrap (0 - a)))
  | .xor, .s (.c (.v (.int k) a)) => some (true, .int k (bitOp .xor k (bif k.signed then -1 else k.max) a))
  | .not, .s (.c (.v .bool b)) => some (true, .bool !b)
  | _, _ => none

def bytesOf (l : List Int) : List UInt8 := l.map fun n => UInt8.ofNat n.toNat

def convA (tt : TT) (st : List Blk) (src dst : TypeId) (x : AV) : Option (Bool × AV) :=
  match tt.get src, tt.get dst with
  | some i, some j =>
    match i.td, j.td, x with
    | .int _, .int k, .s (.c (.v (.int _) a)) => some (true, .int k (k.wrap a))
    | .str, .str, .s (.c (.v .str a)) => some (true, .str a)
    | .slice e, .str, .s (.c c) =>
      match tt.get e with
      | some ⟨.int .u8, _, _, _, _⟩ =>
        match one st (.sl (.int .u8)) c with
        | some l => some (true, .str (bytesOf l))
        | none => none
      | _ => none
    | _, _, _ => none
  | _, _ => none

def idx (i : Int) (n : Nat) : Bool := decide (0 ≤ i) && decide (i < (n : Int))

/-- Both bounds of a cut: what has to hold, from where, to where. -/
def bounds (n : Nat) (lo hi : Option AV) : Option (Bool × Nat × Nat) :=
  match lo, hi with
  | none, none => some (true, 0, n)
  | some (.s (.c (.v (.int _) l))), none => some (decide (0 ≤ l) && decide (l ≤ (n : Int)), l.toNat, n)
  | none, some (.s (.c (.v (.int _) h))) => some (decide (0 ≤ h) && decide (h ≤ (n : Int)), 0, h.toNat)
  | some (.s (.c (.v (.int _) l))), some (.s (.c (.v (.int _) h))) =>
    some (decide (0 ≤ l) && decide (l ≤ h) && decide (h ≤ (n : Int)), l.toNat, h.toNat)
  | _, _ => none

def isZero : Option AV → Bool
  | some (.s (.c (.v (.int _) 0))) => true
  | _ => false

/-- A slice's element type, if its elements are of this size. -/
def elemOK (tt : TT) (T : TypeId) (size : Nat) : Bool :=
  match tt.get T with
  | some ⟨.slice e, _, _, _, _⟩ => match tt.get e with
    | some j => Nat.beq j.size size
    | none => false
  | _ => false

def elemIs (tt : TT) (T : TypeId) : Bool :=
  match tt.get T with
  | some ⟨.slice e, _, _, _, _⟩ => (tt.get e).isSome
  | _ => false

def isSl : CV → Bool
  | .v (.sl _) _ => true
  | .nilsl => true
  | _ => false

def sliceA (tt : TT) (T : TypeId) (x : AV) (lo hi mx : Option AV) : Option (Bool × AV) :=
  match x, mx with
  | .s (.c (.v .str s)), none =>
    match tt.get T with
    | some ⟨.str, _, _, _, _⟩ => match bounds s.length lo hi with
      | some (g, l, h) => some (g, .str ((s.take h).drop l))
      | none => none
    | _ => none
  | .s (.c (.v (.sl t) xs)), none =>
    bif elemOK tt T t.size then
      match bounds (List.length (α := t.den) xs) lo hi with
      | some (g, l, h) => some (g, .v (.sl t) ((xs.take h).drop l))
      | none => none
    else none
  | _, _ => none

def fieldOf (tt : TT) (T : TypeId) (f : Nat) : Option (TI × Nat) :=
  match tt.get T with
  | some ⟨.struct fs, _, _, _, _⟩ =>
    match fs[f]? with
    | some (T', off, _) => match tt.get T' with
      | some i => some (i, off)
      | none => none
    | none => none
  | _ => none

def partA (i : TI) (cs : List CV) (off : Nat) : Option AV :=
  bif i.agg then (bif Nat.ble (off + i.size) cs.length then some (.s (.agg ((cs.drop off).take i.size))) else none)
  else match cs[off]? with
    | some c => some (.cv c)
    | none => none

def fieldAddrA (tt : TT) (st : List Blk) (T : TypeId) (x : AV) (f : Nat) : Option (Bool × AV) :=
  match fieldOf tt T f with
  | some (i, o) =>
    bif Nat.beq i.size 0 then none else
    match x with
    | .s (.c (.ptr b off)) => some (true, .cv (.ptr b (off + o)))
    | .s (.c (.eptr b n j off)) => bif isNonNil st (.eptr b n j off) then some (true, .cv (.eptr b n j (off + o))) else none
    | .s (.c (.rptr t v off)) => some (true, .cv (.rptr t v (off + o)))
    | _ => none
  | none => none

def indexAddrA (tt : TT) (st : List Blk) (T : TypeId) (x ix : AV) : Option (Bool × AV) :=
  match ix with
  | .s (.c (.v (.int _) i)) =>
    match tt.get T, x with
    | some ⟨.slice e, _, _, _, _⟩, .s (.c (.v (.sl t) xs)) =>
      match tt.get e with
      | some j => bif Nat.beq j.size t.size then some (idx i xs.length, .cv (.rptr t (xs.getD i.toNat t.dflt) 0)) else none
      | none => none
    | some ⟨.slice e, _, _, _, _⟩, .s (.c (.own b n)) =>
      match tt.get e, st[b]? with
      | some j, some (.row ver _ t xs) => bif Nat.beq j.size t.size && Nat.beq ver n then some (idx i xs.length, .cv (.eptr b n i.toNat 0)) else none
      | some j, some (.frz ver t xs) => bif Nat.beq j.size t.size && Nat.beq ver n then some (idx i xs.length, .cv (.rptr t (xs.getD i.toNat t.dflt) 0)) else none
      | _, _ => none
    | some ⟨.array n e, _, _, _, _⟩, .s (.c (.ptr b off)) =>
      match tt.get e, st[b]? with
      | some j, some (.arr _ t xs) => bif Nat.beq j.size t.size && Nat.beq off 0 && Nat.ble 2 n then some (idx i n, .cv (.eptr b 0 i.toNat 0)) else none
      | some j, some (.cells _ _) => bif Nat.ble 2 n then some (idx i n, .cv (.ptr b (off + i.toNat * j.size))) else none
      | _, _ => none
    | some ⟨.array n e, _, _, _, _⟩, .s (.c (.eptr b ver k off)) =>
      match tt.get e with
      | some j => bif Nat.ble 2 n && isNonNil st (.eptr b ver k off) then some (idx i n, .cv (.eptr b ver k (off + i.toNat * j.size))) else none
      | _ => none
    | some ⟨.array n e, _, _, _, _⟩, .s (.c (.rptr t v off)) =>
      match tt.get e with
      | some j => bif Nat.ble 2 n then some (idx i n, .cv (.rptr t v (off + i.toNat * j.size))) else none
      | _ => none
    | some ⟨.slice e, _, _, _, _⟩, .s (.c (.slc b n)) =>
      match tt.get e with
      | some j => some (idx i n, .cv (.ptr b (i.toNat * j.size)))
      | none => none
    | _, _ => none
  | _ => none

def indexA (tt : TT) (T : TypeId) (x ix : AV) : Option (Bool × AV) :=
  match ix with
  | .s (.c (.v (.int _) i)) =>
    match tt.get T, x with
    | some ⟨.str, _, _, _, _⟩, .s (.c (.v .str s)) => some (idx i s.length, .int .u8 ((s.getD i.toNat 0).toNat : Int))
    | some ⟨.array n e, _, _, _, _⟩, .s (.agg cs) =>
      match tt.get e with
      | some j =>
        match j.ty with
        | some t =>
          bif Nat.beq j.size t.size then
            match implodeRows [] t n cs with
            | some xs => some (idx i n, bif j.agg then .s (.agg (explode t (xs.getD i.toNat t.dflt))) else
                match explode t (xs.getD i.toNat t.dflt) with
                | [c] => .cv c
                | _ => .cv .any)
            | none => none
          else none
        | none => none
      | none => none
    | _, _ => none
  | _ => none

/-- All elements of an array, as cells. -/
def arrCells (t : Ty) (xs : List t.den) : Nat → Nat → List CV
  | _, 0 => []
  | i, n + 1 => explode t (xs.getD i t.dflt) ++ arrCells t xs (i + 1) n

def loadA (tt : TT) (st : List Blk) (T : TypeId) (x : AV) : Option (Bool × AV) :=
  match tt.get T with
  | some i =>
    match x with
    | .s (.c (.ptr b off)) =>
      match st[b]? with
      | some (.cells _ cs) => match partA i cs off with
        | some v => some (true, v)
        | none => none
      | some (.arr T' t xs) =>
        match i.td with
        | .array n _ => bif Nat.beq off 0 && Nat.beq i.size (n * t.size) && Nat.beq T T' then some (true, .s (.agg (arrCells t xs 0 n))) else none
        | _ => none
      | _ => none
    | .s (.c (.eptr b n k off)) =>
      match st[b]? with
      | some (.row ver _ t xs) => match partA i (explode t (xs.getD k t.dflt)) off with
        | some v => bif Nat.beq ver n then some (decide (k < xs.length), v) else none
        | none => none
      | some (.arr _ t xs) => match partA i (explode t (xs.getD k t.dflt)) off with
        | some v => some (decide (k < xs.length), v)
        | none => none
      | _ => none
    | .s (.c (.rptr t v off)) => match partA i (explode t v) off with
      | some v => some (true, v)
      | none => none
    | _ => none
  | none => none

def splice (cs : List CV) (off : Nat) (vs : List CV) : List CV := cs.take off ++ vs ++ cs.drop (off + vs.length)

/-- Is it told what the cell holds: one value, whole? -/
def liveC (st : List Blk) : CV → Bool
  | .any => false
  | .undef => false
  | .eptr b n i off => isNonNil st (.eptr b n i off)
  | .own b n => match st[b]? with
    | some (.row ver _ _ _) => Nat.beq ver n
    | some (.frz ver _ _) => Nat.beq ver n
    | _ => false
  | _ => true

def fillA (st : List Blk) (place : Nat → Option (Nat × Nat)) (cells : List CV) : List (Nat × AV) → Option (List CV)
  | [] => some cells
  | (i, .s v) :: r =>
    match place i with
    | some (off, size) =>
      bif Nat.beq v.cells.length size && Nat.ble (off + size) cells.length && v.cells.all (liveC st) then fillA st place (splice cells off v.cells) r else none
    | none => none
  | (_, .tup _) :: _ => none

def placesOf (tt : TT) : List (TypeId × Nat × Bool) → Option (List (Nat × Nat))
  | [] => some []
  | (T, off, _) :: r => match tt.get T, placesOf tt r with
    | some i, some ps => some ((off, i.size) :: ps)
    | _, _ => none

def buildA (tt : TT) (st : List Blk) (T : TypeId) (parts : List (Nat × AV)) : Option (Bool × AV) :=
  match tt.get T with
  | some i =>
    match i.td with
    | .struct fs => match placesOf tt fs with
      | some ps => match fillA st (ps[·]?) i.zero parts with
        | some cs => some (true, .s (.agg cs))
        | none => none
      | none => none
    | .array _ e => match tt.get e with
      | some j => match fillA st (fun k => some (k * j.size, j.size)) i.zero parts with
        | some cs => some (true, .s (.agg cs))
        | none => none
      | none => none
    | _ => none
  | none => none

def lenA (tt : TT) (st : List Blk) (T : TypeId) (x : AV) : Option (Bool × AV) :=
  match tt.get T with
  | some i =>
    match i.td, x with
    | .str, .s (.c (.v .str s)) => some (true, .int .i64 (s.length : Int))
    | .array n _, _ => some (true, .int .i64 (n : Int))
    | .slice _, .s (.c (.v (.sl t) xs)) => some (true, .int .i64 ((show List t.den from xs).length : Int))
    | .slice _, .s (.c (.own b n)) =>
      match st[b]? with
      | some (.row ver _ _ xs) => bif Nat.beq ver n then some (true, .int .i64 (xs.length : Int)) else none
      | some (.frz ver _ xs) => bif Nat.beq ver n then some (true, .int .i64 (xs.length : Int)) else none
      | _ => none
    | .slice _, .s (.c .nilsl) => some (true, .int .i64 (0 : Int))
    | .slice _, .s (.c (.slc _ n)) => some (true, .int .i64 (n : Int))
    | _, _ => none
  | none => none

def foldMM (mx : Bool) : Int → IntKind → List AV → Option (Bool × AV)
  | a, k, [] => some (true, .int k a)
  | a, k, .s (.c (.v (.int _) b)) :: r => foldMM mx (if (bif mx then decide (b > a) else decide (b < a)) = true then b else a) k r
  | _, _, _ => none

def ptrsOf : List AV → Option (List (Nat × Nat))
  | [] => some []
  | .s (.c (.ptr b off)) :: r => match ptrsOf r with
    | some l => some ((b, off) :: l)
    | none => none
  | _ => none

def pureOp (tt : TT) (s : St) (op : Op) : Option (Bool × AV) :=
  match op with
  | .move x => some (true, opd s x)
  | .assign x => some (true, opd s x)
  | .nilCheck x => match opd s x with
    | .s (.c c) => bif isNonNil s.st c then some (true, .cv c) else none
    | _ => none
  | .binOp op T x y _ => binA tt s.st op T (opd s x) (opd s y)
  | .unOp op _ x => unA op (opd s x)
  | .convert src dst x => convA tt s.st src dst (opd s x)
  | .slice T x lo hi mx => sliceA tt T (opd s x) (lo.map (opd s)) (hi.map (opd s)) (mx.map (opd s))
  | .fieldAddr T x f => fieldAddrA tt s.st T (opd s x) f
  | .field T x f =>
    match fieldOf tt T f, opd s x with
    | some (i, o), .s (.agg cs) => match partA i cs o with
      | some v => some (true, v)
      | none => none
    | _, _ => none
  | .indexAddr T x ix => indexAddrA tt s.st T (opd s x) (opd s ix)
  | .index T x ix => indexA tt T (opd s x) (opd s ix)
  | .load T x => loadA tt s.st T (opd s x)
  | .extract x i => match opd s x with
    | .tup vs => match vs[i]? with
      | some v => some (true, .s v)
      | none => none
    | _ => none
  | .build T parts => buildA tt s.st T (parts.toList.map fun p => (p.1, opd s p.2))
  | .makeFunc (.func f) first cap =>
    match first.toList, ptrsOf (cap.toList.map (opd s)) with
    | [], some l => some (true, .cv (.fn f l))
    | _, _ => none
  | .call { callee := .builtin .len, args, argTypes } =>
    match args.toList, argTypes.toList with
    | [x], [T] => lenA tt s.st T (opd s x)
    | _, _ => none
  | .call { callee := .builtin .max, args, .. } =>
    match args.toList.map (opd s) with
    | .s (.c (.v (.int k) a)) :: r => foldMM true a k r
    | _ => none
  | .call { callee := .builtin .min, args, .. } =>
    match args.toList.map (opd s) with
    | .s (.c (.v (.int k) a)) :: r => foldMM false a k r
    | _ => none
  | _ => none

end Go.Rf

/- The evaluator, part 2: operations that make or change memory, calls, code. -/
namespace Go.Rf

/-! ### Loops -/
def loopN {S R : Type} : Nat → (S → Option (S ⊕ R)) → S → Option R
  | 0, _, _ => none
  | n + 1, g, s =>
    match g s with
    | none => none
    | some (.inl s') => loopN n g s'
    | some (.inr r) => some r

/-! ### Contracts -/
structure CallRes where
  {R : Type}
  o : Option R
  enc : R → AV

structure Con where
  flat : Bool
  run : List Blk → List SV → Option CallRes
  runF : (Nat → Bool) → List Blk → List SV → Option CallRes

def getCon : List (FuncId × Con) → FuncId → Option Con
  | [], _ => none
  | (k, c) :: r, f => bif Nat.beq k f then some c else getCon r f

/-! ### What is carried over a cut -/
structure Dyn where
  t : Ty
  x : t.den

inductive CP where
  | v (t : Ty)
  | row (e : TypeId) (t : Ty)
  | any
  | self (b off : Nat)
  | at_ (b off : Nat)

inductive SP where
  | c (p : CP)
  | agg (ps : List CP)

inductive BP where
  | cells (T : TypeId) (ps : List CP)
  | arr (T : TypeId) (t : Ty)
  | iter

structure Pat where
  slots : List (Nat × SP)
  blks : List (Nat × BP)

@[reducible] def TL : List Ty → Type
  | [] => Unit
  | [t] => t.den
  | t :: r => t.den × TL r

def spread : (ts : List Ty) → TL ts → List Dyn
  | [], _ => []
  | [t], x => [⟨t, x⟩]
  | t :: u :: r, x => ⟨t, x.1⟩ :: spread (u :: r) x.2

def fit : (ts : List Ty) → List Dyn → Option (TL ts)
  | [], [] => some ()
  | [t], [d] => if h : d.t = t then some (h ▸ d.x) else none
  | t :: u :: r, d :: ds =>
    if h : d.t = t then
      match fit (u :: r) ds with
      | some y => some (h ▸ d.x, y)
      | none => none
    else none
  | _, _ => none

def CP.tys : CP → List Ty
  | .v t => [t]
  | .row _ t => [.sl t]
  | .any => []
  | .self _ _ => []
  | .at_ _ _ => []

def SP.tys : SP → List Ty
  | .c p => p.tys
  | .agg ps => ps.flatMap CP.tys

def BP.tys : BP → List Ty
  | .cells _ ps => ps.flatMap CP.tys
  | .arr _ t => [.sl t]
  | .iter => [.str, .int .i64]

def Pat.tys (p : Pat) : List Ty := p.slots.flatMap (fun x => x.2.tys) ++ p.blks.flatMap (fun x => x.2.tys)

/-- What a pack has taken: values; rows that were moved; rows that were frozen. -/
structure Taken where
  ds : List Dyn
  moved : List Nat
  frozen : List Nat

/-- Nil, or the pointer to this cell. -/
def selfish (b off : Nat) : CV → Bool
  | .nilptr => true
  | .ptr b' o => Nat.beq b b' && Nat.beq off o
  | .selfp b' o => Nat.beq b b' && Nat.beq off o
  | _ => false

def packC (rb : Nat → Bool) (st : List Blk) (p : CP) (c : CV) : Option Taken :=
  match p with
  | .any => some ⟨[], [], []⟩
  | .v t =>
    match one st t c with
    | none => none
    | some x =>
      match c with
      | .own b _ =>
        match st[b]? with
        | some (.row _ _ _ _) => bif rb b then none else some ⟨[⟨t, x⟩], [], [b]⟩
        | _ => some ⟨[⟨t, x⟩], [], []⟩
      | _ => some ⟨[⟨t, x⟩], [], []⟩
  | .row e t =>
    match c with
    | .nilsl => some ⟨[⟨.sl t, ([] : List t.den)⟩], [], []⟩
    | .own b n =>
      match st[b]? with
      | some (.row ver e' t' xs) => bif Nat.beq ver n && Nat.beq e e' && !rb b && decide (t' = t) then some ⟨[⟨.sl t', xs⟩], [b], []⟩ else none
      | _ => none
    | _ => none
  | .self b off =>
    match st[b]? with
    | some (.cells _ _) => bif selfish b off c then some ⟨[], [], []⟩ else none
    | _ => none
  | .at_ b off =>
    match c with
    | .ptr b' o => bif Nat.beq b b' && Nat.beq off o then some ⟨[], [], []⟩ else none
    | _ => none

def Taken.and (a b : Taken) : Taken := ⟨a.ds ++ b.ds, a.moved ++ b.moved, a.frozen ++ b.frozen⟩

def packCs (rb : Nat → Bool) (st : List Blk) : List CP → List CV → Option Taken
  | [], [] => some ⟨[], [], []⟩
  | p :: ps, c :: cs =>
    match packC rb st p c with
    | some a => match packCs rb st ps cs with
      | some b => some (a.and b)
      | none => none
    | none => none
  | _, _ => none

def packS (rb : Nat → Bool) (st : List Blk) (p : SP) (v : AV) : Option Taken :=
  match p, v with
  | .c .any, _ => some ⟨[], [], []⟩
  | .c p, .s (.c c) => packC rb st p c
  | .agg ps, .s (.agg cs) => packCs rb st ps cs
  | _, _ => none

def packB (rb : Nat → Bool) (st : List Blk) (p : BP) (b : Blk) : Option Taken :=
  match p, b with
  | .cells T ps, .cells T' cs => bif Nat.beq T T' then packCs rb st ps cs else none
  | .arr T t, .arr T' t' xs => bif Nat.beq T T' && decide (t' = t) then some ⟨[⟨.sl t', xs⟩], [], []⟩ else none
  | .iter, .iter s pos => some ⟨[⟨.str, s⟩, ⟨.int .i64, pos⟩], [], []⟩
  | _, _ => none

def packSlots (rb : Nat → Bool) (s : St) : List (Nat × SP) → Option Taken
  | [] => some ⟨[], [], []⟩
  | (i, p) :: r =>
    match packS rb s.st p (s.sl.getD i (.cv .undef)) with
    | some a => match packSlots rb s r with
      | some b => some (a.and b)
      | none => none
    | none => none

def packBlks (rb : Nat → Bool) (s : St) : List (Nat × BP) → Option Taken
  | [] => some ⟨[], [], []⟩
  | (i, p) :: r =>
    match s.st[i]? with
    | some bk => match packB rb s.st p bk with
      | some a => match packBlks rb s r with
        | some b => some (a.and b)
        | none => none
      | none => none
    | none => none

def nodupB : List Nat → Bool
  | [] => true
  | a :: r => !(r.contains a) && nodupB r

def packD (rb : Nat → Bool) (p : Pat) (s : St) : Option (List Dyn) :=
  match packSlots rb s p.slots, packBlks rb s p.blks with
  | some a, some b =>
    bif nodupB (a.moved ++ b.moved) && (a.moved ++ b.moved).all (fun i => !((a.frozen ++ b.frozen).contains i)) then some (a.ds ++ b.ds) else none
  | _, _ => none

def packT (rb : Nat → Bool) (p : Pat) (s : St) : Option (TL p.tys) :=
  match packD rb p s with
  | some l => fit p.tys l
  | none => none

/-- What is laid back: values that are left, rows made anew. -/
structure Laid where
  ds : List Dyn
  rows : List Blk

def unC (base : Nat) (l : Laid) (p : CP) : Option (CV × Laid) :=
  match p with
  | .any => some (.any, l)
  | .v _ => match l.ds with
    | d :: r => some (.v d.t d.x, ⟨r, l.rows⟩)
    | [] => none
  | .row e _ => match l.ds with
    | ⟨.sl t', xs⟩ :: r => some (.own (base + l.rows.length) 0, ⟨r, l.rows ++ [.row 0 e t' xs]⟩)
    | _ => none
  | .self b off => bif Nat.blt b base then some (.selfp b off, l) else none
  | .at_ b off => bif Nat.blt b base then some (.ptr b off, l) else none

def unCs (base : Nat) (l : Laid) : List CP → Option (List CV × Laid)
  | [] => some ([], l)
  | p :: ps =>
    match unC base l p with
    | some (c, l') => match unCs base l' ps with
      | some (cs, l'') => some (c :: cs, l'')
      | none => none
    | none => none

def unS (base : Nat) (l : Laid) (p : SP) : Option (AV × Laid) :=
  match p with
  | .c p => match unC base l p with
    | some (c, l') => some (.cv c, l')
    | none => none
  | .agg ps => match unCs base l ps with
    | some (cs, l') => some (.s (.agg cs), l')
    | none => none

def unB (base : Nat) (l : Laid) (p : BP) : Option (Blk × Laid) :=
  match p with
  | .cells T ps => match unCs base l ps with
    | some (cs, l') => some (.cells T cs, l')
    | none => none
  | .arr T _ => match l.ds with
    | ⟨.sl t', xs⟩ :: r => some (.arr T t' xs, ⟨r, l.rows⟩)
    | _ => none
  | .iter => match l.ds with
    | ⟨.str, s⟩ :: ⟨.int _, pos⟩ :: r => some (.iter s pos, ⟨r, l.rows⟩)
    | _ => none

def unSlots (base : Nat) (l : Laid) (sl : List AV) : List (Nat × SP) → Option (List AV × Laid)
  | [] => some (sl, l)
  | (i, p) :: r =>
    match unS base l p with
    | some (v, l') => unSlots base l' (sl.set i v) r
    | none => none

def unBlks (rb : Nat → Bool) (base : Nat) (l : Laid) (st : List Blk) : List (Nat × BP) → Option (List Blk × Laid)
  | [] => some (st, l)
  | (i, p) :: r =>
    bif rb i then none else
    match unB base l p with
    | some (b, l') => unBlks rb base l' (st.set i b) r
    | none => none

/-- Slots that stay, the others forgotten. -/
def blank (keep : Nat → Bool) : Nat → List AV → List AV
  | _, [] => []
  | i, v :: r => (bif keep i then v else .cv .any) :: blank keep (i + 1) r

def blankB (keep : Nat → Bool) : Nat → List Blk → List Blk
  | _, [] => []
  | i, b :: r => (bif keep i then b else .dead) :: blankB keep (i + 1) r

def unpackD (ro rb : Nat → Bool) (p : Pat) (l : List Dyn) (s0 : St) : Option St :=
  match unSlots s0.st.length ⟨l, []⟩ (blank ro 0 s0.sl) p.slots with
  | some (sl, l') => match unBlks rb s0.st.length l' (blankB rb 0 s0.st) p.blks with
    | some (st, ⟨[], rows⟩) => some ⟨sl, st ++ rows⟩
    | _ => none
  | none => none

def unpackT (ro rb : Nat → Bool) (p : Pat) (x : TL p.tys) (s0 : St) : Option St := unpackD ro rb p (spread p.tys x) s0

/-! ### Exits -/
inductive XK where
  | normal
  | ret
  | exit (id : Nat)
  deriving DecidableEq

def XK.to : XK → Exit
  | .normal => .normal
  | .ret => .ret
  | .exit i => .exit i

def XK.is : XK → Exit → Bool
  | .normal, .normal => true
  | .ret, .ret => true
  | .exit i, .exit j => Nat.beq i j
  | _, _ => false

abbrev XP := XK × Pat

@[reducible] def XD : List XP → Type
  | [] => Empty
  | [p] => TL p.2.tys
  | p :: r => TL p.2.tys ⊕ XD r

def packX (rb : Nat → Bool) (ex : Exit) (s : St) : (xs : List XP) → Option (XD xs)
  | [] => none
  | [p] => bif p.1.is ex then packT rb p.2 s else none
  | p :: q :: r =>
    bif p.1.is ex then
      match packT rb p.2 s with
      | some x => some (.inl x)
      | none => none
    else match packX rb ex s (q :: r) with
      | some y => some (.inr y)
      | none => none

def elimX {R : Type} (ro rb : Nat → Bool) (s0 : St) (k : Exit → St → Option R) : (xs : List XP) → XD xs → Option R
  | [], _ => none
  | [p], x => match unpackT ro rb p.2 x s0 with
    | some s => k p.1.to s
    | none => none
  | p :: q :: r, x =>
    match x with
    | .inl x => match unpackT ro rb p.2 x s0 with
      | some s => k p.1.to s
      | none => none
    | .inr y => elimX ro rb s0 k (q :: r) y

/-- What is told of a loop, of a cut: slots from 'lo' on are forgotten, the 'live' ones carried, blocks of 'wb' may change. -/
structure LH where
  lo : Nat
  live : List Nat
  wb : List Nat
  head : Pat
  xs : List XP

inductive HT where
  | nil
  | seq (a b : HT)
  | cond (a b : HT)
  | block (a : HT)
  | loop (h : LH) (a : HT)
  | join (h : LH) (a : HT)
  | calls (l : List (Nat × HT))

def HT.at (h : HT) (i : Nat) : HT :=
  match h with
  | .calls l => (l.find? fun p => Nat.beq p.1 i).elim .nil (·.2)
  | _ => .nil

/-! ### Operations with an effect -/
def mkVar (tt : TT) (st : List Blk) (T : TypeId) (cs : List CV) : Option Blk :=
  match tt.get T with
  | some i =>
    bif Nat.beq cs.length i.size then
      match i.td with
      | .array n e =>
        match tt.get e with
        | some j => match j.ty with
          | some t =>
            bif Nat.beq j.size t.size && t.flat && Nat.beq i.size (n * t.size) then
              match implodeRows st t n cs with
              | some xs => some (.arr T t xs)
              | none => some (.cells T cs)
            else some (.cells T cs)
          | none => some (.cells T cs)
        | none => some (.cells T cs)
      | _ => some (.cells T cs)
    else none
  | none => none

def storeA (tt : TT) (rb : Nat → Bool) (st : List Blk) (T : TypeId) (x : AV) (v : SV) : Option (Bool × List Blk) :=
  match tt.get T with
  | some i =>
    bif Nat.beq v.cells.length i.size && v.cells.all (liveC st) then
      match x with
      | .s (.c (.ptr b off)) =>
        bif rb b then none else
        match st[b]? with
        | some (.cells T' cs) => bif Nat.ble (off + i.size) cs.length then some (true, st.set b (.cells T' (splice cs off v.cells))) else none
        | some (.arr T' t _) =>
          match i.td with
          | .array n _ =>
            bif Nat.beq off 0 && t.flat && Nat.beq T T' && Nat.beq i.size (n * t.size) then
              match implodeRows st t n v.cells with
              | some ys => some (true, st.set b (.arr T' t ys))
              | none => none
            else none
          | _ => none
        | _ => none
      | .s (.c (.eptr b n k off)) =>
        bif rb b then none else
        match st[b]? with
        | some (.row ver e t xs) =>
          bif Nat.ble (off + i.size) t.size && Nat.beq ver n then
            match frzAll rb v.cells st with
            | some st' => match implodeAll st t (splice (explode t (xs.getD k t.dflt)) off v.cells) with
              | some y => match st'[b]? with
                | some (.row _ _ _ _) => some (decide (k < xs.length), st'.set b (.row ver e t (xs.set k y)))
                | _ => none
              | none => none
            | none => none
          else none
        | some (.arr T' t xs) =>
          bif Nat.ble (off + i.size) t.size && t.flat then
            match implodeAll st t (splice (explode t (xs.getD k t.dflt)) off v.cells) with
            | some y => some (decide (k < xs.length), st.set b (.arr T' t (xs.set k y)))
            | none => none
          else none
        | _ => none
      | _ => none
    else none
  | none => none

/-- The elements of what is appended, of a type. -/
def elemsOf (st : List Blk) (t : Ty) (x : AV) : Option (List t.den) :=
  match x with
  | .s (.c c) => one st (.sl t) c
  | _ => none

/-- What is appended: elements that are there, or so many zeros. -/
def srcOf (tt : TT) (st : List Blk) (t : Ty) (bytes : Nat) (U : TypeId) (x : AV) : Option (Bool × List t.den) :=
  match tt.get U with
  | some ⟨.slice _, _, _, _, _⟩ => match elemsOf st t x with
    | some ys => some (true, ys)
    | none => none
  | some ⟨.int _, _, _, _, _⟩ =>
    match x with
    | .s (.c (.v (.int .i64) n)) => some (decide (0 ≤ n) && decide (n * (bytes : Int) ≤ (LIM : Int)) && decide (n ≤ (LIM : Int)), List.replicate n.toNat t.dflt)
    | _ => none
  | some ⟨.str, _, _, _, _⟩ =>
    match t, x with
    | .int .u8, .s (.c (.v .str l)) => some (true, l.map fun b => (b.toNat : Int))
    | _, _ => none
  | _ => none

def appendA (tt : TT) (rb : Nat → Bool) (st : List Blk) (T U : TypeId) (s x : AV) : Option (Bool × AV × List Blk) :=
  match tt.get T with
  | some ⟨.slice e, _, _, _, _⟩ =>
    match tt.get e with
    | some j =>
      match j.ty with
      | some t =>
        bif Nat.beq j.size t.size && Nat.blt 0 j.bytes && Nat.blt 0 j.size then
          match srcOf tt st t j.bytes U x with
          | some (g, ys) =>
            match s with
            | .s (.c (.own b n)) =>
              bif rb b then none else
              match st[b]? with
              | some (.row ver e' t' xs) =>
                if h : t' = t then
                  bif Nat.beq ver n && Nat.beq e e' then
                    some (g && decide (((h ▸ xs : List t.den).length + ys.length) * j.bytes ≤ LIM), .cv (.own b (n + 1)),
                      st.set b (.row (ver + 1) e t ((h ▸ xs : List t.den) ++ ys)))
                  else none
                else none
              | _ => none
            | .s (.c .nilsl) => some (g && decide (ys.length * j.bytes ≤ LIM), .cv (.own st.length 0), st ++ [.row 0 e t ys])
            | _ => none
          | none => none
        else none
      | none => none
    | none => none
  | _ => none

def zeroN (z : List CV) : Nat → List CV
  | 0 => []
  | n + 1 => z ++ zeroN z n

def buildSliceA (tt : TT) (rb : Nat → Bool) (st : List Blk) (T : TypeId) (len : Nat) (parts : List (Nat × AV)) : Option (AV × List Blk) :=
  match tt.get T with
  | some ⟨.slice e, _, _, _, _⟩ =>
    match tt.get e with
    | some j => match j.ty with
      | some t =>
        bif Nat.beq j.size t.size && Nat.blt 0 j.size && Nat.ble (len * j.size) 16777216 then
          match fillA st (fun k => some (k * j.size, j.size)) (zeroN j.zero len) parts with
          | some cs => match frzAll rb cs st with
            | some st' => match implodeRows st t len cs with
              | some xs => some (.cv (.own st.length 0), st' ++ [.row 0 e t xs])
              | none => none
            | none => none
          | none => none
        else none
      | none =>
        bif Nat.blt 0 j.size && Nat.ble (len * j.size) 16777216 then
          match fillA st (fun k => some (k * j.size, j.size)) (zeroN j.zero len) parts with
          | some cs => some (.cv (.slc st.length len), st ++ [.cells e cs])
          | none => none
        else none
    | none => none
  | _ => none

def sliceOwn (tt : TT) (rb : Nat → Bool) (st : List Blk) (T : TypeId) (x : AV) (lo hi : Option AV) : Option (Bool × AV × List Blk) :=
  match tt.get T, x with
  | some ⟨.slice _, _, _, _, _⟩, .s (.c (.own b n)) =>
    match st[b]? with
    | some (.row ver _ t xs) =>
      bif Nat.beq ver n && !rb b && elemOK tt T t.size then
        match bounds xs.length lo hi with
        | some (g, l, h) => some (g, .v (.sl t) ((xs.take h).drop l), st.set b (.frz ver t xs))
        | none => none
      else none
    | some (.frz ver t xs) =>
      bif Nat.beq ver n && elemOK tt T t.size then
        match bounds xs.length lo hi with
        | some (g, l, h) => some (g, .v (.sl t) ((xs.take h).drop l), st)
        | none => none
      else none
    | _ => none
  | some ⟨.array n e, _, _, _, _⟩, .s (.c (.ptr b 0)) =>
    match st[b]?, tt.get e with
    | some (.arr T' t xs), some j =>
      bif rb b || !(Nat.beq T T' && Nat.beq j.size t.size) then none else
      match bounds n lo hi with
      | some (g, l, h) => some (g, .v (.sl t) ((xs.take h).drop l), st.set b .dead)
      | none => none
    | _, _ => none
  | _, _ => none

def effOp (tt : TT) (rb : Nat → Bool) (s : St) (op : Op) : Option (Bool × AV × List Blk) :=
  match op with
  | .alloc T => match tt.get T with
    | some i => match mkVar tt s.st T i.zero with
      | some b => some (true, .cv (.ptr s.st.length 0), s.st ++ [b])
      | none => none
    | none => none
  | .box T x => match opd s x with
    | .s v => bif v.cells.all (liveC s.st) then
        match mkVar tt s.st T v.cells with
        | some b => some (true, .cv (.ptr s.st.length 0), s.st ++ [b])
        | none => none
      else none
    | _ => none
  | .store T x v => match opd s v with
    | .s v => match storeA tt rb s.st T (opd s x) v with
      | some (g, st) => some (g, .cv .undef, st)
      | none => none
    | _ => none
  | .buildSlice T len parts => match buildSliceA tt rb s.st T len (parts.toList.map fun p => (p.1, opd s p.2)) with
    | some (v, st) => some (true, v, st)
    | none => none
  | .call { callee := .builtin .append, args, argTypes } =>
    match args.toList, argTypes.toList with
    | [x, y], [T, U] => appendA tt rb s.st T U (opd s x) (opd s y)
    | _, _ => none
  | .makeSlice T x y =>
    match tt.get T, opd s x, opd s y with
    | some ⟨.slice e, _, _, _, _⟩, .s (.c (.v (.int .i64) a)), .s (.c (.v (.int .i64) c)) =>
      match tt.get e with
      | some j => match j.ty with
        | some t =>
          bif Nat.beq j.size t.size && Nat.blt 0 j.size then
            some (decide (0 ≤ a) && decide (a ≤ c) && decide (c * (j.bytes : Int) ≤ (LIM : Int)) && decide (c ≤ (LIM : Int)), .cv (.own s.st.length 0), s.st ++ [.row 0 e t (List.replicate a.toNat t.dflt)])
          else none
        | none => none
      | none => none
    | _, _, _ => none
  | .slice T x lo hi none => sliceOwn tt rb s.st T (opd s x) (lo.map (opd s)) (hi.map (opd s))
  | .convert src dst x =>
    match tt.get src, tt.get dst, opd s x with
    | some ⟨.str, _, _, _, _⟩, some ⟨.slice e, _, _, _, _⟩, .s (.c (.v .str l)) =>
      match tt.get e with
      | some ⟨.int .u8, _, _, _, _⟩ => some (decide (l.length ≤ LIM), .v (.sl (.int .u8)) (l.map fun b => (b.toNat : Int)), s.st)
      | _ => none
    | _, _, _ => none
  | .range T x =>
    match tt.get T, opd s x with
    | some ⟨.str, _, _, _, _⟩, .s (.c (.v .str l)) => some (true, .cv (.ptr s.st.length 0), s.st ++ [.iter l 0])
    | _, _ => none
  | _ => none

/-! ### Code -/
/-- The library's functions that have no body. -/
inductive Ext where
  | add64
  | sub64
  | cmp
  | indexByte
  | count

def cmpL : List UInt8 → List UInt8 → Int
  | [], [] => 0
  | [], _ :: _ => -1
  | _ :: _, [] => 1
  | a :: x, b :: y => if a = b then cmpL x y else if a < b then -1 else 1

def idxByte (l : List UInt8) (c : Int) : Int :=
  match l.findIdx? (fun b => b == UInt8.ofNat c.toNat) with
  | some i => (i : Int)
  | none => -1

def cntByte (l : List UInt8) (c : Int) : Int := (l.countP (fun b => b == UInt8.ofNat c.toNat) : Int)

def m64 : Nat := 18446744073709551616

def extA (e : Ext) (xs : List SV) : Option (Bool × AV) :=
  match e, xs with
  | .add64, [.c (.v (.int _) x), .c (.v (.int _) y), .c (.v (.int _) c)] =>
    some (decide (c.toNat ≤ 1), .tup [.c (.v (.int .u64) (((x.toNat + y.toNat + c.toNat) % 18446744073709551616 : Nat) : Int)), .c (.v (.int .u64) (((x.toNat + y.toNat + c.toNat) / 18446744073709551616 : Nat) : Int))])
  | .sub64, [.c (.v (.int _) x), .c (.v (.int _) y), .c (.v (.int _) c)] =>
    some (decide (c.toNat ≤ 1), .tup [.c (.v (.int .u64) (((x.toNat + 18446744073709551616 - y.toNat - c.toNat) % 18446744073709551616 : Nat) : Int)), .c (.v (.int .u64) ((if x.toNat < y.toNat + c.toNat then 1 else 0 : Nat) : Int))])
  | .cmp, [.c (.v .str x), .c (.v .str y)] => some (true, .int .i64 (cmpL x y))
  | .indexByte, [.c (.v .str x), .c (.v (.int .u8) c)] => some (true, .int .i64 (idxByte x c))
  | .count, [.c (.v .str x), .c (.v (.int .u8) c)] => some (true, .int .i64 (cntByte x c))
  | _, _ => none

def getExt : List (FuncId × Ext) → FuncId → Option Ext
  | [], _ => none
  | (k, c) :: r, f => bif Nat.beq k f then some c else getExt r f

abbrev Inl := FuncId → HT → List SV → (Nat → Bool) → (R : Type) → List Blk → (AV → List Blk → Option R) → Option R

structure Cx where
  tt : TT
  cons : List (FuncId × Con)
  exts : List (FuncId × Ext)
  K : Nat
  inl : Inl

def svs : List AV → Option (List SV)
  | [] => some []
  | .s v :: r => match svs r with
    | some l => some (v :: l)
    | none => none
  | .tup _ :: _ => none

def callF (cx : Cx) (rb : Nat → Bool) (h : HT) (f : FuncId) (args : List SV) (caps : List SV) (R : Type) (st : List Blk) (k : AV → List Blk → Option R) : Option R :=
  match getCon cx.cons f with
  | some c =>
    match caps with
    | [] =>
      match c.run st args with
      | some r =>
        bif c.flat then r.o.bind fun x => k (r.enc x) st
        else match frzAll rb (args.flatMap SV.cells) st with
          | some st' => r.o.bind fun x => k (r.enc x) st'
          | none => none
      | none => bif c.flat then
          match c.runF rb st args with
          | some r => r.o.bind fun x => k (r.enc x) st
          | none => none
        else none
    | _ :: _ => none
  | none =>
    match getExt cx.exts f with
    | some e =>
      match caps, extA e args with
      | [], some (g, v) => bif g then k v st else none
      | _, _ => none
    | none => cx.inl f h (args ++ caps) rb R st k

def stepOp (cx : Cx) (rb : Nat → Bool) (h : HT) (op : Op) (s : St) (R : Type) (k : AV → List Blk → Option R) : Option R :=
  match op with
  | .pick c a b =>
    match opd s c with
    | .s (.c (.v .bool x)) => bif x then k (opd s a) s.st else k (opd s b) s.st
    | _ => none
  | .call { callee := .value f, args, .. } =>
    match opd s f, svs (args.toList.map (opd s)) with
    | .s (.c (.fn n cap)), some l => callF cx rb h n l (cap.map fun p => .c (.ptr p.1 p.2)) R s.st k
    | _, _ => none
  | .next x true =>
    match opd s x with
    | .s (.c (.ptr b 0)) =>
      match s.st[b]? with
      | some (.iter l pos) =>
        bif rb b then none else
        bif decide (pos < (l.length : Int)) then
          k (.tup [.c (.v .bool true), .c (.v (.int .i64) pos), .c (.v (.int .i32) ((Utf8.decode ⟨l.toArray⟩ pos.toNat).1 : Int))])
            (s.st.set b (.iter l (pos + ((Utf8.decode ⟨l.toArray⟩ pos.toNat).2 : Int))))
        else k (.tup [.c (.v .bool false)]) s.st
      | _ => none
    | _ => none
  | op =>
    match pureOp cx.tt s op with
    | some (g, v) => bif g then k v s.st else none
    | none =>
      match effOp cx.tt rb s op with
      | some (g, v, st) => bif g then k v st else none
      | none => none

def putA (ro : Nat → Bool) (d : Option Nat) (v : AV) (sl : List AV) : Option (List AV) :=
  match d with
  | none => some sl
  | some d => bif ro d then none else some (sl.set d v)

def litA (ro : Nat → Bool) (d : Nat) (b : Bool) (sl : List AV) : List AV := bif ro d then sl else sl.set d (.bool b)

def evalOps (cx : Cx) (ro rb : Nat → Bool) (chk : St → Op → Bool) (h : HT) (all : List Oper) (R : Type) : Nat → List Oper → St → (St → Option R) → Option R
  | _, [], s, k => k s
  | i, o :: r, s, k =>
    match o.guard with
    | none =>
      bif chk s o.op then
        stepOp cx rb (h.at i) o.op s R fun v st =>
          match putA ro o.dst v s.sl with
          | some sl => evalOps cx ro rb chk h all R (i + 1) r ⟨sl, st⟩ k
          | none => none
      else none
    | some (gi, want) =>
      match (all[gi]?).bind (·.dst) with
      | some d =>
        match s.sl.getD d (.cv .any) with
        | .s (.c (.v .bool x)) =>
          bif x then
            bif want then
              bif chk ⟨litA ro d true s.sl, s.st⟩ o.op then
                stepOp cx rb (h.at i) o.op ⟨litA ro d true s.sl, s.st⟩ R fun v st =>
                  match putA ro o.dst v (litA ro d true s.sl) with
                  | some sl => evalOps cx ro rb chk h all R (i + 1) r ⟨sl, st⟩ k
                  | none => none
              else none
            else
              match putA ro o.dst (.cv .undef) (litA ro d true s.sl) with
              | some sl => evalOps cx ro rb chk h all R (i + 1) r ⟨sl, s.st⟩ k
              | none => none
          else
            bif want then
              match putA ro o.dst (.cv .undef) (litA ro d false s.sl) with
              | some sl => evalOps cx ro rb chk h all R (i + 1) r ⟨sl, s.st⟩ k
              | none => none
            else
              bif chk ⟨litA ro d false s.sl, s.st⟩ o.op then
                stepOp cx rb (h.at i) o.op ⟨litA ro d false s.sl, s.st⟩ R fun v st =>
                  match putA ro o.dst v (litA ro d false s.sl) with
                  | some sl => evalOps cx ro rb chk h all R (i + 1) r ⟨sl, st⟩ k
                  | none => none
              else none
        | .s (.c .undef) =>
          match putA ro o.dst (.cv .undef) s.sl with
          | some sl => evalOps cx ro rb chk h all R (i + 1) r ⟨sl, s.st⟩ k
          | none => none
        | _ => none
      | none => none

/-- Does an operation do more than read? -/
def isEff (tt : TT) : Op → Bool
  | .move _ | .assign _ | .pick .. | .build .. | .load .. | .nilCheck _ | .binOp .. | .unOp .. | .slice .. | .fieldAddr .. | .field .. | .indexAddr .. | .index .. | .extract .. | .makeFunc .. => false
  | .call { callee := .builtin .len, .. } => false
  | .call { callee := .builtin .max, .. } => false
  | .call { callee := .builtin .min, .. } => false
  | .convert _ dst _ => match tt.get dst with
    | some ⟨.slice _, _, _, _, _⟩ => true
    | _ => false
  | _ => true

def isAlloc : Op → Bool
  | .alloc _ => true
  | _ => false

/-- The blocks that a cell leads to lie below. -/
def refLt (nb : Nat) : CV → Bool
  | .ptr b _ => Nat.blt b nb
  | .eptr b _ _ _ => Nat.blt b nb
  | .own b _ => Nat.blt b nb
  | .slc b _ => Nat.blt b nb
  | _ => true

def refsLt (nb : Nat) : AV → Bool
  | .s (.c c) => refLt nb c
  | .s (.agg cs) => cs.all (refLt nb)
  | .tup _ => true

/-- No row of one's own in it. -/
def noOwn : CV → Bool
  | .own _ _ => false
  | _ => true

def noOwnA : AV → Bool
  | .s (.c c) => noOwn c
  | .s (.agg cs) => cs.all noOwn
  | .tup _ => true

/-- What an operation of a region that draws its order has to meet. -/
def chkDraw (cx : Cx) (nb : Nat) (strict : Bool) (s : St) (op : Op) : Bool :=
  bif isEff cx.tt op then
    bif strict then
      (op.operands.toList.all fun x => refsLt nb (opd s x)) &&
      (match op with
      | .alloc _ => true
      | .call { callee := .value f, .. } =>
        match opd s f with
        | .s (.c (.fn n [])) =>
          match getCon cx.cons n with
          | some c => c.flat || op.operands.toList.all fun x => noOwnA (opd s x)
          | none => match getExt cx.exts n with
            | some _ => true
            | none => false
        | _ => false
      | _ => false)
    else true
  else
    (op.operands.toList.all fun x => refsLt nb (opd s x)) &&
    (match op with
      | .pick .. => true
      | _ => (pureOp cx.tt s op).isSome)

/-- Each once. -/
def ddup : List Nat → List Nat → List Nat
  | acc, [] => acc
  | acc, x :: l => bif acc.contains x then ddup acc l else ddup (x :: acc) l

/-- What each operation waits for, over others too. -/
def depsOf (acc : List (List Nat)) : List Oper → List (List Nat)
  | [] => acc
  | o :: r =>
    let ds := ddup [] ((o.after.toList.filter (Region.binds .any)).flatMap fun e => e.on :: acc.getD e.on [])
    depsOf (acc ++ [ds]) r

/-- The first place from which on each operation waits for all ahead of it. -/
def tailAt (deps : List (List Nat)) : Nat → Nat
  | 0 => 0
  | i + 1 => bif (List.range i).all (fun k => (deps.getD i []).contains k) then tailAt deps i else i + 1

def drawPair (tt : TT) (ops : Array Oper) (di : List Nat) (oi : Oper) (k : Nat) (ok : Oper) : Bool :=
  di.contains k || (oi.apart ops ok && ok.apart ops oi &&
    (!(isEff tt ok.op && isEff tt oi.op) || (isAlloc ok.op != isAlloc oi.op)))

def drawPairs (tt : TT) (ops : Array Oper) (di : List Nat) (oi : Oper) : Nat → List Oper → Bool
  | _, [] => true
  | k, ok :: r => drawPair tt ops di oi k ok && drawPairs tt ops di oi (k + 1) r

/-- The operations ahead of i, all below 'hd'. -/
def drawAll (tt : TT) (ops : Array Oper) (deps : List (List Nat)) (hd : Nat) : Nat → List Oper → Bool
  | _, [] => true
  | i, o :: r => (o.after.toList.all fun e => !Region.binds .any e || Nat.blt e.on i) &&
    (bif Nat.blt i hd then drawPairs tt ops (deps.getD i []) o 0 (ops.toList.take i) else (List.range i).all fun k => (deps.getD i []).contains k) && drawAll tt ops deps hd (i + 1) r

def drawOK (tt : TT) (ops : Array Oper) : Bool := Region.noSelect ops && drawAll tt ops (depsOf [] ops.toList) (tailAt (depsOf [] ops.toList) ops.size) 0 ops.toList

def headOf (ops : Array Oper) : Nat := tailAt (depsOf [] ops.toList) ops.size

def strictOf (ops : Array Oper) : Bool := (ops.toList.take (headOf ops)).any fun o => isAlloc o.op

def evalC (cx : Cx) : Code → (R : Type) → (ro rb : Nat → Bool) → HT → St → (Exit → St → Option R) → Option R
  | .skip, _, _, _, _, s, k => k .normal s
  | .region _ ops draw, R, ro, rb, h, s, k =>
    bif draw then
      bif drawOK cx.tt ops then
        evalOps cx ro (fun b => rb b || Nat.blt b s.st.length) (chkDraw cx s.st.length (strictOf ops)) h ops.toList R 0 (ops.toList.take (headOf ops)) s fun s1 =>
          evalOps cx ro rb (fun _ _ => true) h ops.toList R (headOf ops) (ops.toList.drop (headOf ops)) s1 (k .normal)
      else none
    else evalOps cx ro rb (fun _ _ => true) h ops.toList R 0 ops.toList s (k .normal)
  | .seq a b, R, ro, rb, h, s, k =>
    match h with
    | .join j h =>
      (evalC cx a (XD j.xs) (fun i => ro i || (Nat.blt i j.lo && !j.live.contains i)) (fun i => rb i || (Nat.blt i s.st.length && !j.wb.contains i))
        (match h with | .seq x _ => x | _ => .nil) s
        (fun ex s' => packX (fun i => rb i || (Nat.blt i s.st.length && !j.wb.contains i)) ex s' j.xs)).bind fun e =>
      elimX (fun i => ro i || (Nat.blt i j.lo && !j.live.contains i)) (fun i => rb i || (Nat.blt i s.st.length && !j.wb.contains i)) s
        (fun ex s' => match ex with
          | .normal => evalC cx b R ro rb (match h with | .seq _ y => y | _ => .nil) s' k
          | ex => k ex s') j.xs e
    | .seq x y => evalC cx a R ro rb x s fun ex s' => match ex with
        | .normal => evalC cx b R ro rb y s' k
        | ex => k ex s'
    | _ => evalC cx a R ro rb .nil s fun ex s' => match ex with
        | .normal => evalC cx b R ro rb .nil s' k
        | ex => k ex s'
  | .cond c t e, R, ro, rb, h, s, k =>
    match opd s c with
    | .s (.c (.v .bool x)) =>
      bif x then evalC cx t R ro rb (match h with | .cond p _ => p | _ => .nil) ⟨(match c with | .tmp d => litA ro d true s.sl | _ => s.sl), s.st⟩ k
      else evalC cx e R ro rb (match h with | .cond _ q => q | _ => .nil) ⟨(match c with | .tmp d => litA ro d false s.sl | _ => s.sl), s.st⟩ k
    | _ => none
  | .block id c, R, ro, rb, h, s, k =>
    evalC cx c R ro rb (match h with | .block p => p | _ => .nil) s fun ex s' => match ex with
      | .exit i => bif Nat.beq i id then k .normal s' else k (.exit i) s'
      | ex => k ex s'
  | .loop c, R, ro, rb, h, s, k =>
    match h with
    | .loop l h =>
      match packT (fun i => rb i || (Nat.blt i s.st.length && !l.wb.contains i)) l.head s with
      | some x0 =>
        (loopN cx.K (fun x =>
          match unpackT (fun i => ro i || (Nat.blt i l.lo && !l.live.contains i)) (fun i => rb i || (Nat.blt i s.st.length && !l.wb.contains i)) l.head x s with
          | some s1 =>
            evalC cx c (TL l.head.tys ⊕ XD l.xs) (fun i => ro i || (Nat.blt i l.lo && !l.live.contains i)) (fun i => rb i || (Nat.blt i s.st.length && !l.wb.contains i)) h s1
              fun ex s2 => match ex with
                | .normal => match packT (fun i => rb i || (Nat.blt i s.st.length && !l.wb.contains i)) l.head s2 with
                  | some y => some (.inl y)
                  | none => none
                | ex => match packX (fun i => rb i || (Nat.blt i s.st.length && !l.wb.contains i)) ex s2 l.xs with
                  | some y => some (.inr y)
                  | none => none
          | none => none) x0).bind fun e =>
        elimX (fun i => ro i || (Nat.blt i l.lo && !l.live.contains i)) (fun i => rb i || (Nat.blt i s.st.length && !l.wb.contains i)) s k l.xs e
      | none => none
    | _ => none
  | .exit id, _, _, _, _, s, k => k (.exit id) s
  | .ret, _, _, _, _, s, k => k .ret s
  | _, _, _, _, _, _, _ => none

/-! ### Functions -/
/-- A value's first text: its key in a sort. -/
def keyT : (t : Ty) → t.den → List UInt8
  | .str, x => x
  | .pair a _, x => keyT a x.1
  | _, _ => []
def Ty.keyed : Ty → Bool
  | .str => true
  | .pair a _ => a.keyed
  | _ => false
/-- slices.SortFunc by keys: where each element stands behind it. -/
def sortIx (ks : List (List UInt8)) : List Nat := (Sort.pdq (fun i j => decide (cmpL (ks.getD (if i < ks.length then i else 0) []) (ks.getD (if j < ks.length then j else 0) []) < 0)) (Array.range ks.length) 0 ks.length (Lib.bitLen ks.length) true true).toList
def sortF {α : Type} (key : α → List UInt8) : List α → List α
  | [] => []
  | x0 :: r => (sortIx ((x0 :: r).map key)).map fun i => (x0 :: r).getD i x0

/-- Functions that have a contract on the store: strings.Builder's copyCheck (whose cells stand in blocks of these types), String; slices.Clone at an element's type; slices.SortFunc by a function that compares the first texts. -/
inductive Sp where
  | copyCheck (Ts : List (TypeId × Nat))
  | text (e : TypeId)
  | clone (e : TypeId) (t : Ty) (bytes : Nat)
  | sort (g : FuncId) (e : TypeId) (t : Ty)

def spA (p : Sp) (rb : Nat → Bool) (args : List SV) (st : List Blk) : Option (Bool × AV × List Blk) :=
  match p, args with
  | .copyCheck Ts, [.c (.ptr b 0)] =>
    bif rb b then none else
    match st[b]? with
    | some (.cells T (c :: cs)) => bif (Ts.any fun p => Nat.beq p.1 T && Nat.beq p.2 (cs.length + 1)) && selfish b 0 c then some (true, .tup [], st.set b (.cells T (.ptr b 0 :: cs))) else none
    | _ => none
  | .text e, [.c (.ptr b 0)] =>
    match st[b]? with
    | some (.cells _ (_ :: .nilsl :: _)) => some (true, .str [], st)
    | some (.cells _ (_ :: .own b' n :: _)) =>
      match st[b']? with
      | some (.row ver e' (.int .u8) xs) => bif Nat.beq ver n && Nat.beq e e' && !rb b' then some (true, .str (bytesOf xs), st.set b' .dead) else none
      | _ => none
    | _ => none
  | .clone e t by_, [.c c] =>
    match one st (.sl t) c with
    | some xs => some (decide (0 < t.size) && decide (List.length (α := t.den) xs * by_ ≤ LIM) && decide (List.length (α := t.den) xs ≤ 9223372036854775807), .cv (.own st.length 0), st ++ [.row 0 e t xs])
    | none => none
  | .sort g e t, [.c (.own b n), .c (.fn g' [])] =>
    bif rb b then none else
    match st[b]? with
    | some (.row ver e' t' xs) => bif Nat.beq ver n && Nat.beq g g' && Nat.beq e e' && t'.keyed && decide (t' = t) then some (decide (xs.length < 4611686018427387904), .tup [], st.set b (.row ver e' t' (sortF (keyT t') xs))) else none
    | _ => none
  | _, _ => none

structure Body where
  code : Code
  ntmps : Nat
  results : List ResultVar
  sp : Option Sp

def resOne (tt : TT) (s : St) : ResultVar → Option SV
  | .tmp t => match s.sl.getD t (.cv .undef) with
    | .s v => some v
    | _ => none
  | .cell a T => match loadA tt s.st T (s.sl.getD a (.cv .undef)) with
    | some (true, .s v) => some v
    | _ => none

def resAll (tt : TT) (s : St) : List ResultVar → Option (List SV)
  | [] => some []
  | r :: rs => match resOne tt s r, resAll tt s rs with
    | some v, some l => some (v :: l)
    | _, _ => none

def resAV : List SV → AV
  | [v] => .s v
  | l => .tup l

def startSl (args : List SV) (n : Nat) : List AV := args.map .s ++ List.replicate (n - args.length) (.cv .undef)

def isEnd : Exit → Bool
  | .normal => true
  | .ret => true
  | _ => false

def inlOf (tt : TT) (cons : List (FuncId × Con)) (exts : List (FuncId × Ext)) (K : Nat) (bodies : FuncId → Option Body) : Nat → Inl
  | 0 => fun _ _ _ _ _ _ _ => none
  | d + 1 => fun f h args rb R st k =>
    match bodies f with
    | some B =>
      match B.sp with
      | some p => match spA p rb args st with
        | some (g, v, st') => bif g then k v st' else none
        | none => none
      | none =>
        match h with
        | .join j h =>
          match packT (fun i => rb i || (Nat.blt i st.length && !j.wb.contains i)) j.head ⟨args.map .s, st⟩ with
          | some x0 =>
            match unpackT (fun _ => true) (fun i => rb i || (Nat.blt i st.length && !j.wb.contains i)) j.head x0 ⟨args.map .s, st⟩ with
            | some s1 =>
              match svs s1.sl with
              | some as =>
                (evalC ⟨tt, cons, exts, K, inlOf tt cons exts K bodies d⟩ B.code (XD j.xs) (fun _ => false) (fun i => rb i || (Nat.blt i st.length && !j.wb.contains i)) h ⟨startSl as B.ntmps, s1.st⟩ fun ex s' =>
                  bif isEnd ex then
                    match resAll tt s' B.results with
                    | some l => packX (fun i => rb i || (Nat.blt i st.length && !j.wb.contains i)) .ret ⟨l.map .s, s'.st⟩ j.xs
                    | none => none
                  else none).bind fun e =>
                elimX (fun _ => false) (fun i => rb i || (Nat.blt i st.length && !j.wb.contains i)) ⟨List.replicate B.results.length (.cv .any), st⟩ (fun _ s2 =>
                  match svs s2.sl with
                  | some l => k (resAV l) s2.st
                  | none => none) j.xs e
              | none => none
            | none => none
          | none => none
        | h =>
          evalC ⟨tt, cons, exts, K, inlOf tt cons exts K bodies d⟩ B.code R (fun _ => false) rb h ⟨startSl args B.ntmps, st⟩ fun ex s' =>
            bif isEnd ex then
              match resAll tt s' B.results with
              | some l => k (resAV l) s'.st
              | none => none
            else none
    | none => none

/-- A parameter's, a result's type: one cell, or a struct. -/
inductive PT where
  | c (t : Ty)
  | agg (t : Ty)

def PT.ty : PT → Ty
  | .c t => t
  | .agg t => t

@[reducible] def PL : List PT → Type
  | [] => Unit
  | [p] => p.ty.den
  | p :: r => p.ty.den × PL r

def encP (p : PT) (x : p.ty.den) : SV :=
  match p with
  | .c t => .c (.v t x)
  | .agg t => .agg (explode t x)

def encL : (ps : List PT) → PL ps → List SV
  | [], _ => []
  | [p], x => [encP p x]
  | p :: q :: r, x => encP p x.1 :: encL (q :: r) x.2

def decP (st : List Blk) (p : PT) (v : SV) : Option p.ty.den :=
  match p, v with
  | .c t, .c c => one st t c
  | .agg t, .agg cs => implodeAll st t cs
  | _, _ => none

def decL (st : List Blk) : (ps : List PT) → List SV → Option (PL ps)
  | [], [] => some ()
  | [p], [v] => decP st p v
  | p :: q :: r, v :: vs =>
    match decP st p v with
    | some x => match decL st (q :: r) vs with
      | some y => some (x, y)
      | none => none
    | none => none
  | _, _ => none

/-! ### Rows of rows that nobody else holds, read as values -/
def implodeW (f : (t : Ty) → CV → Option t.den) : (t : Ty) → List CV → Option (t.den × List CV)
  | .pair a b, cs =>
    match implodeW f a cs with
    | some (x, r) => match implodeW f b r with
      | some (y, r') => some ((x, y), r')
      | none => none
    | none => none
  | .int k, c :: r => match f (.int k) c with
    | some x => some (x, r)
    | none => none
  | .bool, c :: r => match f .bool c with
    | some x => some (x, r)
    | none => none
  | .str, c :: r => match f .str c with
    | some x => some (x, r)
    | none => none
  | .sl t, c :: r => match f (.sl t) c with
    | some x => some (x, r)
    | none => none
  | _, [] => none

def implodeRowsW (f : (t : Ty) → CV → Option t.den) (t : Ty) : Nat → List CV → Option (List t.den)
  | 0, [] => some []
  | 0, _ :: _ => none
  | n + 1, cs => match implodeW f t cs with
    | some (x, r) => match implodeRowsW f t n r with
      | some xs => some (x :: xs)
      | none => none
    | none => none

def foneS (f : (t : Ty) → CV → Option t.den) (rb : Nat → Bool) (st : List Blk) (t : Ty) (c : CV) : Option t.den :=
  match t, c with
  | .sl t', .slc b n => bif rb b then none else
    match st[b]? with
    | some (.cells _ cs) => implodeRowsW f t' n cs
    | _ => none
  | _, _ => none

def fone (rb : Nat → Bool) (st : List Blk) : Nat → (t : Ty) → CV → Option t.den
  | 0, t, c => one st t c
  | n + 1, t, c => match one st t c with
    | some x => some x
    | none => foneS (fone rb st n) rb st t c

def fdecP (rb : Nat → Bool) (st : List Blk) (p : PT) (v : SV) : Option p.ty.den :=
  match p, v with
  | .c t, .c c => fone rb st 4 t c
  | .agg t, .agg cs => match implodeW (fone rb st 4) t cs with
    | some (x, []) => some x
    | _ => none
  | _, _ => none

def fdecL (rb : Nat → Bool) (st : List Blk) : (ps : List PT) → List SV → Option (PL ps)
  | [], [] => some ()
  | [p], [v] => fdecP rb st p v
  | p :: q :: r, v :: vs =>
    match fdecP rb st p v with
    | some x => match fdecL rb st (q :: r) vs with
      | some y => some (x, y)
      | none => none
    | none => none
  | _, _ => none

structure Sig where
  ps : List PT
  rs : List PT

def mkCon (g : Sig) (f : PL g.ps → Option (PL g.rs)) : Con :=
  { flat := g.rs.all fun p => p.ty.flat
    run := fun st args => match decL st g.ps args with
      | some x => some ⟨f x, fun y => resAV (encL g.rs y)⟩
      | none => none
    runF := fun rb st args => match fdecL rb st g.ps args with
      | some x => some ⟨f x, fun y => resAV (encL g.rs y)⟩
      | none => none }

def evalF (cx : Cx) (g : Sig) (B : Body) (h : HT) (x : PL g.ps) : Option (PL g.rs) :=
  evalC cx B.code (PL g.rs) (fun _ => false) (fun _ => false) h ⟨startSl (encL g.ps x) B.ntmps, []⟩ fun ex s' =>
    bif isEnd ex then
      match resAll cx.tt s' B.results with
      | some l => decL s'.st g.rs l
      | none => none
    else none

def getBody : List (FuncId × Body) → FuncId → Option Body
  | [], _ => none
  | (k, c) :: r, f => bif Nat.beq k f then some c else getBody r f

end Go.Rf

/- The evaluator without continuations. -/
namespace Go.Rf

def InlB (inl : Inl) : Prop := ∀ f h args rb R st k, inl f h args rb R st k = (inl f h args rb (AV × List Blk) st fun v st => some (v, st)).bind fun p => k p.1 p.2

theorem bif_bind {α β : Type} (b : Bool) (x y : Option α) (f : α → Option β) : (bif b then x else y).bind f = bif b then x.bind f else y.bind f := by cases b <;> rfl

theorem callF_bind {cx : Cx} (hi : InlB cx.inl) (rb : Nat → Bool) (h : HT) (f : FuncId) (args caps : List SV) (R : Type) (st : List Blk) (k : AV → List Blk → Option R) :
    callF cx rb h f args caps R st k = (callF cx rb h f args caps (AV × List Blk) st fun v st => some (v, st)).bind fun p => k p.1 p.2 := by
  unfold callF
  split
  · split
    · split
      · rename_i r _
        rw [bif_bind]
        congr 1
        · rw [Option.bind_assoc]; rfl
        · split
          · rw [Option.bind_assoc]; rfl
          · rfl
      · rw [bif_bind]
        congr 1
        split
        · rw [Option.bind_assoc]; rfl
        · rfl
    · rfl
  · split
    · split
      · rw [bif_bind]
        rfl
      · rfl
    · exact hi ..

theorem stepOp_bind {cx : Cx} (hi : InlB cx.inl) (rb : Nat → Bool) (h : HT) (op : Op) (s : St) (R : Type) (k : AV → List Blk → Option R) :
    stepOp cx rb h op s R k = (stepOp cx rb h op s (AV × List Blk) fun v st => some (v, st)).bind fun p => k p.1 p.2 := by
  unfold stepOp
  split
  · split
    · rw [bif_bind]; rfl
    · rfl
  · split
    · exact callF_bind hi ..
    · rfl
  · split
    · split
      · simp only [bif_bind, Option.bind_some, Option.bind_none]
      · rfl
    · rfl
  · split
    · rw [bif_bind]; rfl
    · split
      · rw [bif_bind]; rfl
      · rfl

/-- A step, told. -/
def stepF (cx : Cx) (rb : Nat → Bool) (h : HT) (op : Op) (s : St) : Option (AV × List Blk) := stepOp cx rb h op s (AV × List Blk) fun v st => some (v, st)

/-- What one operation of a region comes to, its guard looked at. -/
def operF (cx : Cx) (ro rb : Nat → Bool) (chk : St → Op → Bool) (h : HT) (all : List Oper) (i : Nat) (o : Oper) (s : St) : Option St :=
  match o.guard with
  | none =>
    bif chk s o.op then
      (stepF cx rb (h.at i) o.op s).bind fun p => (putA ro o.dst p.1 s.sl).map fun sl => ⟨sl, p.2⟩
    else none
  | some (gi, want) =>
    match (all[gi]?).bind (·.dst) with
    | some d =>
      match s.sl.getD d (.cv .any) with
      | .s (.c (.v .bool x)) =>
        bif x == want then
          bif chk ⟨litA ro d x s.sl, s.st⟩ o.op then
            (stepF cx rb (h.at i) o.op ⟨litA ro d x s.sl, s.st⟩).bind fun p => (putA ro o.dst p.1 (litA ro d x s.sl)).map fun sl => ⟨sl, p.2⟩
          else none
        else (putA ro o.dst (.cv .undef) (litA ro d x s.sl)).map fun sl => ⟨sl, s.st⟩
      | .s (.c .undef) => (putA ro o.dst (.cv .undef) s.sl).map fun sl => ⟨sl, s.st⟩
      | _ => none
    | none => none

def opsF (cx : Cx) (ro rb : Nat → Bool) (chk : St → Op → Bool) (h : HT) (all : List Oper) : Nat → List Oper → St → Option St
  | _, [], s => some s
  | i, o :: r, s => (operF cx ro rb chk h all i o s).bind fun s' => opsF cx ro rb chk h all (i + 1) r s'

theorem put_bind {R : Type} (x : Option (List AV)) (st : List Blk) (f : St → Option R) :
    (match x with | some sl => f ⟨sl, st⟩ | none => none) = (x.map fun sl => (⟨sl, st⟩ : St)).bind f := by cases x <;> rfl

theorem evalOps_bind {cx : Cx} (hi : InlB cx.inl) (ro rb : Nat → Bool) (chk : St → Op → Bool) (h : HT) (all : List Oper) (R : Type) :
    ∀ (l : List Oper) (i : Nat) (s : St) (k : St → Option R), evalOps cx ro rb chk h all R i l s k = (opsF cx ro rb chk h all i l s).bind k
  | [], i, s, k => by simp [evalOps, opsF]
  | o :: r, i, s, k => by
    have ih := fun i' s' => evalOps_bind hi ro rb chk h all R r i' s' k
    have step : ∀ (sl : List AV), (bif chk ⟨sl, s.st⟩ o.op then stepOp cx rb (h.at i) o.op ⟨sl, s.st⟩ R fun v st =>
          match putA ro o.dst v sl with
          | some sl => evalOps cx ro rb chk h all R (i + 1) r ⟨sl, st⟩ k
          | none => none
        else none) =
      ((bif chk ⟨sl, s.st⟩ o.op then (stepF cx rb (h.at i) o.op ⟨sl, s.st⟩).bind fun p => (putA ro o.dst p.1 sl).map fun sl => (⟨sl, p.2⟩ : St) else none).bind
        fun s' => opsF cx ro rb chk h all (i + 1) r s').bind k := by
      intro sl
      cases chk ⟨sl, s.st⟩ o.op
      · rfl
      · simp only [cond_true]
        rw [stepOp_bind hi, show stepOp cx rb (h.at i) o.op ⟨sl, s.st⟩ (AV × List Blk) (fun v st => some (v, st)) = stepF cx rb (h.at i) o.op ⟨sl, s.st⟩ from rfl]
        cases stepF cx rb (h.at i) o.op ⟨sl, s.st⟩ with
        | none => rfl
        | some p =>
          simp only [Option.bind_some]
          cases putA ro o.dst p.1 sl with
          | none => rfl
          | some sl => simp [ih]
    have off : ∀ (sl : List AV), (match putA ro o.dst (.cv .undef) sl with
          | some sl => evalOps cx ro rb chk h all R (i + 1) r ⟨sl, s.st⟩ k
          | none => none) = (((putA ro o.dst (.cv .undef) sl).map fun sl => (⟨sl, s.st⟩ : St)).bind fun s' => opsF cx ro rb chk h all (i + 1) r s').bind k := by
      intro sl
      cases putA ro o.dst (.cv .undef) sl with
      | none => rfl
      | some sl => simp [ih]
    simp only [evalOps, opsF]
    unfold operF
    cases hg : o.guard with
    | none => exact step s.sl
    | some gw =>
      obtain ⟨gi, want⟩ := gw
      simp only []
      cases hd : (all[gi]?).bind (·.dst) with
      | none => rfl
      | some d =>
        simp only []
        generalize s.sl.getD d (.cv .any) = av
        cases av with
        | tup _ => rfl
        | s sv =>
          cases sv with
          | agg _ => rfl
          | c c =>
            cases c with
            | undef => exact off s.sl
            | v ty x =>
              cases ty with
              | bool =>
                simp only []
                rcases Bool.eq_false_or_eq_true x with hx | hx <;> rcases Bool.eq_false_or_eq_true want with hw | hw <;> subst hx <;> subst hw <;> simp only [cond_true, cond_false]
                · exact step _
                · exact off _
                · exact off _
                · exact step _
              | _ => rfl
            | _ => rfl

/-- Code, told: the way out and the state. -/
def codeF (cx : Cx) (c : Code) (ro rb : Nat → Bool) (h : HT) (s : St) : Option (Exit × St) := evalC cx c (Exit × St) ro rb h s fun ex s => some (ex, s)

theorem elimX_bind {R : Type} (ro rb : Nat → Bool) (s0 : St) (k : Exit → St → Option R) : ∀ (xs : List XP) (x : XD xs),
    elimX ro rb s0 k xs x = (elimX ro rb s0 (fun ex s => some (ex, s)) xs x).bind fun p => k p.1 p.2
  | [], _ => rfl
  | [p], x => by
    simp only [elimX]
    split <;> rfl
  | p :: q :: r, x => by
    cases x with
    | inl x =>
      simp only [elimX]
      split <;> rfl
    | inr y =>
      simp only [elimX]
      exact elimX_bind ro rb s0 k (q :: r) y

theorem evalC_bind {cx : Cx} (hi : InlB cx.inl) : ∀ (c : Code) (R : Type) (ro rb : Nat → Bool) (h : HT) (s : St) (k : Exit → St → Option R),
    evalC cx c R ro rb h s k = (codeF cx c ro rb h s).bind fun p => k p.1 p.2 := by
  intro c
  induction c with
  | skip => intros; rfl
  | region id ops draw =>
    intro R ro rb h s k
    cases draw
    · simp only [codeF, evalC, cond_false]
      rw [evalOps_bind hi, evalOps_bind hi, Option.bind_assoc]
      rfl
    · simp only [codeF, evalC, cond_true]
      cases drawOK cx.tt ops
      · rfl
      · simp only [cond_true]
        rw [evalOps_bind hi, evalOps_bind hi, Option.bind_assoc]
        congr 1
        funext s1
        rw [evalOps_bind hi, evalOps_bind hi, Option.bind_assoc]
        rfl
  | seq a b iha ihb =>
    intro R ro rb h s k
    have key : ∀ (h1 h2 : HT) (R : Type) (k : Exit → St → Option R), (evalC cx a R ro rb h1 s fun ex s' => match ex with
        | .normal => evalC cx b R ro rb h2 s' k
        | ex => k ex s') = (codeF cx a ro rb h1 s).bind fun p => match p.1 with
          | .normal => (codeF cx b ro rb h2 p.2).bind fun q => k q.1 q.2
          | ex => k ex p.2 := by
      intro h1 h2 R k
      rw [iha]
      congr 1
      funext p
      split
      · exact ihb ..
      · rfl
    have key2 : ∀ (h1 h2 : HT), (evalC cx a R ro rb h1 s fun ex s' => match ex with
        | .normal => evalC cx b R ro rb h2 s' k
        | ex => k ex s') = (evalC cx a (Exit × St) ro rb h1 s fun ex s' => match ex with
        | .normal => evalC cx b (Exit × St) ro rb h2 s' (fun ex s => some (ex, s))
        | ex => some (ex, s')).bind fun p => k p.1 p.2 := by
      intro h1 h2
      rw [key, key, Option.bind_assoc]
      congr 1
      funext p
      split
      · rw [Option.bind_assoc]; rfl
      · rename_i hne
        simp
    cases h with
    | join j h =>
      simp only [codeF, evalC]
      rw [Option.bind_assoc]
      congr 1
      funext e
      refine (elimX_bind _ _ _ _ _ _).trans ?_
      refine Eq.trans ?_ (congrArg (fun z => Option.bind z fun p : Exit × St => k p.1 p.2) (elimX_bind _ _ _ _ _ _).symm)
      rw [Option.bind_assoc]
      congr 1
      funext p
      split
      · rw [ihb, ihb, Option.bind_assoc]
        rfl
      · rfl
    | seq x y => simp only [codeF, evalC]; exact key2 x y
    | nil => simp only [codeF, evalC]; exact key2 .nil .nil
    | cond _ _ => simp only [codeF, evalC]; exact key2 .nil .nil
    | block _ => simp only [codeF, evalC]; exact key2 .nil .nil
    | loop _ _ => simp only [codeF, evalC]; exact key2 .nil .nil
    | calls _ => simp only [codeF, evalC]; exact key2 .nil .nil
  | cond c t e iht ihe =>
    intro R ro rb h s k
    simp only [codeF, evalC]
    split
    · rename_i x hx
      cases x
      · simp only [cond_false]; exact ihe ..
      · simp only [cond_true]; exact iht ..
    · rfl
  | block id c ih =>
    intro R ro rb h s k
    simp only [codeF, evalC]
    rw [ih, ih, Option.bind_assoc]
    congr 1
    funext p
    split
    · rw [bif_bind]; rfl
    · rfl
  | loop c ih =>
    intro R ro rb h s k
    cases h with
    | loop l h =>
      simp only [codeF, evalC]
      split
      · rw [Option.bind_assoc]
        congr 1
        funext e
        exact elimX_bind ..
      · rfl
    | _ => rfl
  | exit id => intros; rfl
  | ret => intros; rfl
  | rangeFunc f ps a b _ _ => intros; rfl
  | scope b _ => intros; rfl
  | label l => intros; rfl
  | goto l => intros; rfl
  | refuse w => intros; rfl

theorem inlOf_bind (tt : TT) (cons : List (FuncId × Con)) (exts : List (FuncId × Ext)) (K : Nat) (bodies : FuncId → Option Body) : ∀ d, InlB (inlOf tt cons exts K bodies d)
  | 0 => fun _ _ _ _ _ _ _ => rfl
  | d + 1 => by
    intro f h args rb R st k
    simp only [inlOf]
    cases bodies f with
    | none => rfl
    | some B =>
      simp only []
      cases B.sp with
      | some p =>
        simp only []
        cases spA p rb args st with
        | none => rfl
        | some r =>
          obtain ⟨g, v, st'⟩ := r
          cases g <;> rfl
      | none =>
      simp only []
      have plain : ∀ h : HT, (evalC ⟨tt, cons, exts, K, inlOf tt cons exts K bodies d⟩ B.code R (fun _ => false) rb h ⟨startSl args B.ntmps, st⟩ fun ex s' =>
            bif isEnd ex then
              match resAll tt s' B.results with
              | some l => k (resAV l) s'.st
              | none => none
            else none) = (evalC ⟨tt, cons, exts, K, inlOf tt cons exts K bodies d⟩ B.code (AV × List Blk) (fun _ => false) rb h ⟨startSl args B.ntmps, st⟩ fun ex s' =>
            bif isEnd ex then
              match resAll tt s' B.results with
              | some l => some (resAV l, s'.st)
              | none => none
            else none).bind fun p => k p.1 p.2 := by
        intro h
        rw [evalC_bind (inlOf_bind tt cons exts K bodies d), evalC_bind (inlOf_bind tt cons exts K bodies d), Option.bind_assoc]
        congr 1
        funext p
        cases isEnd p.1
        · rfl
        · simp only [cond_true]
          split <;> rfl
      cases h with
      | join j h =>
        simp only []
        split
        · split
          · split
            · rw [Option.bind_assoc]
              congr 1
              funext e
              refine (elimX_bind _ _ _ _ _ _).trans ?_
              refine Eq.trans ?_ (congrArg (fun z => Option.bind z fun p : AV × List Blk => k p.1 p.2) (elimX_bind _ _ _ _ _ _).symm)
              rw [Option.bind_assoc]
              congr 1
              funext p
              split <;> rfl
            · rfl
          · rfl
        · rfl
      | _ => exact plain _

end Go.Rf

/- What deep values say of the machine's. -/
namespace Go.Rf
open Go.RowKit

/-! ### Addresses -/
theorem add_add (a : Addr) (x y : Nat) : (a.add x).add y = a.add (x + y) := by
  unfold Addr.add
  by_cases hx : x = 0 <;> by_cases hy : y = 0 <;> simp [hx, hy, Nat.add_assoc]
theorem add_block (a : Addr) (x : Nat) : (a.add x).block = a.block := by unfold Addr.add; split <;> rfl
theorem add_plain (g o j : Nat) : (⟨g, o, none⟩ : Addr).add j = ⟨g, o + j, none⟩ := by unfold Addr.add; split <;> simp_all
theorem add_zero' (a : Addr) : a.add 0 = a := rfl

theorem cell_eq {w w' : World} {a : Addr} (h : w'.heap[a.block]? = w.heap[a.block]?) : w'.cell? a = w.cell? a := by simp [World.cell?, h]

/-- These cells stand from an address on. -/
def CellsAt (w : World) (ad : Addr) (rs : List Value) : Prop := ∀ i u, rs[i]? = some u → w.cell? (ad.add i) = some u

theorem CellsAt.mono {w w' : World} {ad : Addr} {rs : List Value} (h : CellsAt w ad rs) (hw : w'.heap[ad.block]? = w.heap[ad.block]?) : CellsAt w' ad rs :=
  fun i u hu => by rw [cell_eq (w := w) (by rw [add_block]; exact hw)]; exact h i u hu
theorem CellsAt.sub {w : World} {ad : Addr} {rs : List Value} (h : CellsAt w ad rs) (o n : Nat) : CellsAt w (ad.add o) ((rs.drop o).take n) := by
  intro i u hu
  rw [add_add]
  refine h (o + i) u ?_
  rw [List.getElem?_take] at hu
  split at hu
  · rwa [List.getElem?_drop] at hu
  · cases hu

/-! ### Typed values -/
def Rep (S : Nat → Prop) (w : World) : (t : Ty) → t.den → List Value → Prop
  | .int k, n, cs => cs = [.int k n]
  | .bool, b, cs => cs = [.bool b]
  | .str, l, cs => cs = [.string ⟨List.toArray l⟩]
  | .sl t, xs, cs => ∃ A c, cs = [.slice A (List.length (α := t.den) xs) c] ∧ List.length (α := t.den) xs ≤ c ∧
      (0 < List.length (α := t.den) xs → ∃ ad, A = some ad ∧ S ad.block ∧
        ∀ (j : Nat) (x : t.den), (show List t.den from xs)[j]? = some x → ∃ rs, Rep S w t x rs ∧ CellsAt w (ad.add (j * t.size)) rs)
  | .pair a b, x, cs => ∃ c1 c2, cs = c1 ++ c2 ∧ Rep S w a x.1 c1 ∧ Rep S w b x.2 c2

theorem Rep.len {S : Nat → Prop} {w : World} : ∀ {t : Ty} {x : t.den} {cs : List Value}, Rep S w t x cs → cs.length = t.size
  | .int _, _, _, h => by rw [Rep] at h; subst h; rfl
  | .bool, _, _, h => by rw [Rep] at h; subst h; rfl
  | .str, _, _, h => by rw [Rep] at h; subst h; rfl
  | .sl _, _, _, h => by rw [Rep] at h; obtain ⟨_, _, rfl, _⟩ := h; rfl
  | .pair a b, _, _, h => by
    rw [Rep] at h
    obtain ⟨c1, c2, rfl, h1, h2⟩ := h
    rw [List.length_append, Rep.len h1, Rep.len h2]; rfl

theorem Rep.mono {S S' : Nat → Prop} {w w' : World} (hS : ∀ g, S g → S' g) (hw : ∀ g, S g → w'.heap[g]? = w.heap[g]?) :
    ∀ {t : Ty} {x : t.den} {cs : List Value}, Rep S w t x cs → Rep S' w' t x cs
  | .int _, _, _, h => h
  | .bool, _, _, h => h
  | .str, _, _, h => h
  | .sl t, _, _, h => by
    rw [Rep] at h ⊢
    obtain ⟨A, c, e, hl, hc⟩ := h
    refine ⟨A, c, e, hl, fun hp => ?_⟩
    obtain ⟨ad, ea, hs, hx⟩ := hc hp
    refine ⟨ad, ea, hS _ hs, fun j x hj => ?_⟩
    obtain ⟨rs, h1, h2⟩ := hx j x hj
    exact ⟨rs, Rep.mono hS hw h1, h2.mono (by rw [add_block]; exact hw _ hs)⟩
  | .pair a b, _, _, h => by
    rw [Rep] at h ⊢
    obtain ⟨c1, c2, e, h1, h2⟩ := h
    exact ⟨c1, c2, e, Rep.mono hS hw h1, Rep.mono hS hw h2⟩

theorem Rep.oneCell {S : Nat → Prop} {w : World} : ∀ {t : Ty} {x : t.den} {cs : List Value}, Rep S w t x cs → ∀ v ∈ cs, v.oneCell' = true
  | .int _, _, _, h => by rw [Rep] at h; subst h; simp [Value.oneCell']
  | .bool, _, _, h => by rw [Rep] at h; subst h; simp [Value.oneCell']
  | .str, _, _, h => by rw [Rep] at h; subst h; simp [Value.oneCell']
  | .sl _, _, _, h => by rw [Rep] at h; obtain ⟨_, _, rfl, _⟩ := h; simp [Value.oneCell']
  | .pair a b, _, _, h => by
    rw [Rep] at h
    obtain ⟨c1, c2, rfl, h1, h2⟩ := h
    intro v hv
    rcases List.mem_append.1 hv with hv | hv
    · exact Rep.oneCell h1 v hv
    · exact Rep.oneCell h2 v hv

/-- Elements side by side. -/
def Rows (S : Nat → Prop) (w : World) (t : Ty) (xs : List t.den) (cs : List Value) : Prop :=
  cs.length = xs.length * t.size ∧ ∀ j x, xs[j]? = some x → Rep S w t x ((cs.drop (j * t.size)).take t.size)

theorem Rows.mono {S S' : Nat → Prop} {w w' : World} {t : Ty} {xs : List t.den} {cs : List Value} (hS : ∀ g, S g → S' g) (hw : ∀ g, S g → w'.heap[g]? = w.heap[g]?) (h : Rows S w t xs cs) : Rows S' w' t xs cs :=
  ⟨h.1, fun j x hj => (h.2 j x hj).mono hS hw⟩

/-! ### Places -/
inductive Pl where
  | at_ (g : Nat)
  | hdr (v : Value)

structure Gh where
  m : Nat → Pl
  S : Nat → Prop

/-- The block of a row's header, if it can be written. -/
def rowBlk : Value → Option Nat
  | .slice (some a) _ (_ + 1) => some a.block
  | _ => none

def RCV (G : Gh) (st : List Blk) (w : World) : CV → Value → Prop
  | .any, _ => True
  | .undef, v => v = Go.undef
  | .v t x, v => Rep G.S w t x [v]
  | .ptr b off, v => b < st.length ∧ ∃ g, G.m b = .at_ g ∧ v = .pointer (some ⟨g, off, none⟩)
  | .eptr b n i off, v =>
    match st[b]? with
    | some (.arr _ t _) => ∃ g, G.m b = .at_ g ∧ v = .pointer (some ⟨g, i * t.size + off, none⟩)
    | some (.row ver _ t _) => n ≤ ver ∧ (n = ver → ∃ h g, G.m b = .hdr h ∧ rowBlk h = some g ∧ v = .pointer (some ⟨g, i * t.size + off, none⟩))
    | some (.frz _ _ _) => True
    | some .dead => True
    | _ => False
  | .rptr t x off, v => ∃ ad cs, v = .pointer (some (ad.add off)) ∧ G.S ad.block ∧ Rep G.S w t x cs ∧ CellsAt w ad cs
  | .own b n, v =>
    match st[b]? with
    | some (.row ver _ _ _) => n ≤ ver ∧ (n = ver → G.m b = .hdr v)
    | some (.frz ver t xs) => n ≤ ver ∧ (n = ver → Rep G.S w (.sl t) xs [v])
    | some .dead => True
    | _ => False
  | .nilsl, v => v = .slice none 0 0
  | .nilptr, v => v = .pointer none
  | .nilfn, v => v = .nilFunc
  | .fn f cap, v => ∃ vs : List Value, v = .func (.func f) #[] vs.toArray ∧ vs.length = cap.length ∧
      ∀ (i : Nat) p, cap[i]? = some p → p.1 < st.length ∧ ∃ g, G.m p.1 = .at_ g ∧ vs[i]? = some (.pointer (some ⟨g, p.2, none⟩))
  | .slc b n, v => b < st.length ∧ ∃ g, G.m b = .at_ g ∧ v = .slice (some ⟨g, 0, none⟩) n n
  | .selfp b off, v => b < st.length ∧ ∃ g, G.m b = .at_ g ∧ (v = .pointer none ∨ v = .pointer (some ⟨g, off, none⟩))

def RCs (G : Gh) (st : List Blk) (w : World) : List CV → List Value → Prop
  | [], [] => True
  | c :: cs, v :: vs => RCV G st w c v ∧ RCs G st w cs vs
  | _, _ => False

def RSV (G : Gh) (st : List Blk) (w : World) : SV → Value → Prop
  | .c x, v => RCV G st w x v
  | .agg cs, v => ∃ arr : List Value, v = .agg arr.toArray ∧ RCs G st w cs arr

def RSs (G : Gh) (st : List Blk) (w : World) : List SV → List Value → Prop
  | [], [] => True
  | c :: cs, v :: vs => RSV G st w c v ∧ RSs G st w cs vs
  | _, _ => False

def RAV (G : Gh) (st : List Blk) (w : World) : AV → Value → Prop
  | .s x, v => RSV G st w x v
  | .tup xs, v => ∃ arr : List Value, v = .tuple arr.toArray ∧ RSs G st w xs arr

theorem RCs.len {G : Gh} {st : List Blk} {w : World} : ∀ {cs : List CV} {vs : List Value}, RCs G st w cs vs → cs.length = vs.length
  | [], [], _ => rfl
  | _ :: _, _ :: _, h => by simp [RCs.len h.2]
  | [], _ :: _, h => h.elim
  | _ :: _, [], h => h.elim

theorem RCs.get {G : Gh} {st : List Blk} {w : World} : ∀ {cs : List CV} {vs : List Value}, RCs G st w cs vs → ∀ {i : Nat} {c : CV}, cs[i]? = some c → ∃ v, vs[i]? = some v ∧ RCV G st w c v
  | _ :: _, v :: _, h, 0, _, hc => by simp at hc; subst hc; exact ⟨v, rfl, h.1⟩
  | _ :: _, _ :: _, h, i + 1, _, hc => by
    obtain ⟨v, hv, hr⟩ := RCs.get h.2 (by simpa using hc)
    exact ⟨v, by simpa using hv, hr⟩
  | [], [], _, _, _, hc => by simp at hc
  | [], _ :: _, h, _, _, _ => h.elim
  | _ :: _, [], h, _, _, _ => h.elim

theorem RCs.mk {G : Gh} {st : List Blk} {w : World} : ∀ {cs : List CV} {vs : List Value}, cs.length = vs.length → (∀ (i : Nat) c v, cs[i]? = some c → vs[i]? = some v → RCV G st w c v) → RCs G st w cs vs
  | [], [], _, _ => trivial
  | c :: cs, v :: vs, hl, h => ⟨h 0 c v rfl rfl, RCs.mk (by simpa using hl) fun i c v hc hv => h (i + 1) c v (by simpa using hc) (by simpa using hv)⟩
  | [], _ :: _, hl, _ => by simp at hl
  | _ :: _, [], hl, _ => by simp at hl

theorem RCs.append {G : Gh} {st : List Blk} {w : World} : ∀ {cs cs' : List CV} {vs vs' : List Value}, RCs G st w cs vs → RCs G st w cs' vs' → RCs G st w (cs ++ cs') (vs ++ vs')
  | [], _, [], _, _, h' => h'
  | _ :: _, _, _ :: _, _, h, h' => ⟨h.1, RCs.append h.2 h'⟩
  | [], _, _ :: _, _, h, _ => h.elim
  | _ :: _, _, [], _, h, _ => h.elim

theorem RCs.take {G : Gh} {st : List Blk} {w : World} : ∀ {cs : List CV} {vs : List Value} (n : Nat), RCs G st w cs vs → RCs G st w (cs.take n) (vs.take n)
  | [], [], _, _ => by simp [RCs]
  | _ :: _, _ :: _, 0, _ => by simp [RCs]
  | _ :: _, _ :: _, n + 1, h => ⟨h.1, RCs.take n h.2⟩
  | [], _ :: _, _, h => h.elim
  | _ :: _, [], _, h => h.elim

theorem RCs.drop {G : Gh} {st : List Blk} {w : World} : ∀ {cs : List CV} {vs : List Value} (n : Nat), RCs G st w cs vs → RCs G st w (cs.drop n) (vs.drop n)
  | [], [], _, _ => by simp [RCs]
  | _ :: _, _ :: _, 0, h => h
  | _ :: _, _ :: _, n + 1, h => RCs.drop n h.2
  | [], _ :: _, _, h => h.elim
  | _ :: _, [], _, h => h.elim

/-- A row's header, and the cells behind it. -/
def OwnR (w : World) (B : Nat) (e : TypeId) (size : Nat) (v : Value) (n : Nat) (xs : List Value) : Prop :=
  xs.length = n * size ∧
  ((∃ A, v = .slice A 0 0 ∧ n = 0 ∧ ∀ a, A = some a → a.block < w.heap.size) ∨
   ∃ g cap cur, v = .slice (some ⟨g, 0, none⟩) n (cap + 1) ∧ B ≤ g ∧ w.heap[g]? = some (.cells cur e (0, 0)) ∧ n ≤ cap + 1 ∧ cap + 1 ≤ maxLen ∧ cur.size = (cap + 1) * size ∧ cur.toList.take (n * size) = xs)

def RBlk (tt : TT) (B : Nat) (G : Gh) (st : List Blk) (w : World) (b : Nat) : Blk → Prop
  | .cells T cs => ∃ g, ∃ arr : List Value, G.m b = .at_ g ∧ w.heap[g]? = some (.cells arr.toArray T (0, 0)) ∧ RCs G st w cs arr
  | .row _ e t xs => ∃ v cells, G.m b = .hdr v ∧ OwnR w B e t.size v xs.length cells ∧ Rows G.S w t xs cells ∧ 0 < t.size
  | .frz _ _ _ => True
  | .arr T t xs => ∃ g, ∃ arr : List Value, G.m b = .at_ g ∧ w.heap[g]? = some (.cells arr.toArray T (0, 0)) ∧ Rows G.S w t xs arr ∧ ∃ i n e, tt.get T = some i ∧ i.td = .array n e ∧ xs.length = n
  | .iter s pos => ∃ g p, G.m b = .at_ g ∧ w.heap[g]? = some (.stringIter ⟨s.toArray⟩ p) ∧ (p : Int) = pos
  | .dead => True

/-- The machine's block behind a block that may be written. -/
def conc (G : Gh) (b : Nat) : Blk → Option Nat
  | .cells _ _ => match G.m b with | .at_ g => some g | .hdr _ => none
  | .arr _ _ _ => match G.m b with | .at_ g => some g | .hdr _ => none
  | .iter _ _ => match G.m b with | .at_ g => some g | .hdr _ => none
  | .row _ _ _ _ => match G.m b with | .at_ _ => none | .hdr v => rowBlk v
  | _ => none

/-- What stands low, below all that a call may write, and stays: package variables that are laid. -/
class LowTab where
  ks : List Nat
  ok : Nat → Obj → Prop

def LowAt [LowTab] (B : Nat) (w : World) : Prop := ∀ k ∈ LowTab.ks, k < B ∧ ∃ o, w.heap[k]? = some o ∧ LowTab.ok k o

theorem LowAt.keep [LowTab] {B : Nat} {w w' : World} (h : LowAt B w) (hk : ∀ g, g < B → w'.heap[g]? = w.heap[g]?) : LowAt B w' := fun k hm => by
  obtain ⟨h1, o, h2, h3⟩ := h k hm
  exact ⟨h1, o, (hk k h1).trans h2, h3⟩

theorem LowAt.le [LowTab] {B B' : Nat} {w : World} (h : LowAt B w) (hb : B ≤ B') : LowAt B' w := fun k hm => ⟨Nat.lt_of_lt_of_le (h k hm).1 hb, (h k hm).2⟩

set_option linter.unusedSectionVars false
variable [LowTab]

structure SimM (tt : TT) (B : Nat) (G : Gh) (st : List Blk) (w : World) : Prop where
  blks : ∀ b blk, st[b]? = some blk → RBlk tt B G st w b blk
  disj : ∀ b b' blk blk' g, st[b]? = some blk → st[b']? = some blk' → conc G b blk = some g → conc G b' blk' = some g → b = b'
  own : ∀ b blk g, st[b]? = some blk → conc G b blk = some g → B ≤ g ∧ g < w.heap.size ∧ ¬ G.S g
  slt : ∀ g, G.S g → g < w.heap.size
  base : B ≤ w.heap.size ∧ LowAt B w

def SimF (G : Gh) (st : List Blk) (w : World) (sl : List AV) (tmps : Array Value) : Prop :=
  sl.length = tmps.size ∧ ∀ (i : Nat) av v, sl[i]? = some av → tmps[i]? = some v → RAV G st w av v

/-- Of what kind a block may become. -/
def KEv : Blk → Blk → Prop
  | .cells _ _, .cells _ _ => True
  | .cells _ _, .dead => True
  | .row _ _ _ _, .row _ _ _ _ => True
  | .row _ _ _ _, .frz _ _ _ => True
  | .row _ _ _ _, .dead => True
  | .frz _ _ _, .frz _ _ _ => True
  | .frz _ _ _, .dead => True
  | .arr _ t _, .arr _ t' _ => t = t'
  | .arr _ _ _, .dead => True
  | .iter _ _, .iter _ _ => True
  | .iter _ _, .dead => True
  | .dead, .dead => True
  | _, _ => False

theorem KEv.refl (b : Blk) : KEv b b := by cases b <;> simp [KEv]
theorem KEv.trans {a b c : Blk} (h : KEv a b) (k : KEv b c) : KEv a c := by
  cases a <;> cases b <;> simp only [KEv] at h <;> cases c <;> simp only [KEv] at k ⊢
  rw [h, k]

/-- What a step has left: only blocks that may be written have turned; what was known of values is still so. -/
structure Post (B : Nat) (rb : Nat → Bool) (G : Gh) (st : List Blk) (w : World) (G' : Gh) (st' : List Blk) (w' : World) : Prop where
  os : w'.os = w.os
  tape : w'.tape = w.tape
  output : w'.output = w.output
  size : w.heap.size ≤ w'.heap.size
  frame : ∀ g, g < w.heap.size → (∀ b blk, st[b]? = some blk → conc G b blk = some g → rb b = true) → w'.heap[g]? = w.heap[g]?
  keep : ∀ b, rb b = true → b < st.length → st'[b]? = st[b]? ∧ G'.m b = G.m b
  len : st.length ≤ st'.length
  ext : ∀ c v, RCV G st w c v → RCV G' st' w' c v
  S : ∀ g, G'.S g → G.S g ∨ B ≤ g
  mono : ∀ g, G.S g → G'.S g
  ev : ∀ (b : Nat) (blk : Blk), st[b]? = some blk → ∃ blk' : Blk, st'[b]? = some blk' ∧ KEv blk blk'
  placed : ∀ b' blk' g, st'[b']? = some blk' → conc G' b' blk' = some g → rb b' = false → w.heap.size ≤ g ∨ ∃ b blk, st[b]? = some blk ∧ conc G b blk = some g ∧ rb b = false

theorem RCs.ext {G G' : Gh} {st st' : List Blk} {w w' : World} (h : ∀ c v, RCV G st w c v → RCV G' st' w' c v) : ∀ {cs : List CV} {vs : List Value}, RCs G st w cs vs → RCs G' st' w' cs vs
  | [], [], _ => trivial
  | _ :: _, _ :: _, k => ⟨h _ _ k.1, RCs.ext h k.2⟩
  | [], _ :: _, k => k.elim
  | _ :: _, [], k => k.elim

theorem RSV.ext {G G' : Gh} {st st' : List Blk} {w w' : World} (h : ∀ c v, RCV G st w c v → RCV G' st' w' c v) : ∀ {c : SV} {v : Value}, RSV G st w c v → RSV G' st' w' c v
  | .c _, _, k => h _ _ k
  | .agg _, _, ⟨arr, e, k⟩ => ⟨arr, e, k.ext h⟩

theorem RSs.ext {G G' : Gh} {st st' : List Blk} {w w' : World} (h : ∀ c v, RCV G st w c v → RCV G' st' w' c v) : ∀ {cs : List SV} {vs : List Value}, RSs G st w cs vs → RSs G' st' w' cs vs
  | [], [], _ => trivial
  | _ :: _, _ :: _, k => ⟨k.1.ext h, RSs.ext h k.2⟩
  | [], _ :: _, k => k.elim
  | _ :: _, [], k => k.elim

theorem RAV.ext {G G' : Gh} {st st' : List Blk} {w w' : World} (h : ∀ c v, RCV G st w c v → RCV G' st' w' c v) : ∀ {c : AV} {v : Value}, RAV G st w c v → RAV G' st' w' c v
  | .s _, _, k => RSV.ext h k
  | .tup _, _, ⟨arr, e, k⟩ => ⟨arr, e, k.ext h⟩

theorem SimF.ext {G G' : Gh} {st st' : List Blk} {w w' : World} {sl : List AV} {tmps : Array Value} (h : ∀ c v, RCV G st w c v → RCV G' st' w' c v) (k : SimF G st w sl tmps) : SimF G' st' w' sl tmps :=
  ⟨k.1, fun i av v h1 h2 => (k.2 i av v h1 h2).ext h⟩

theorem Post.refl (B : Nat) (rb : Nat → Bool) (G : Gh) (st : List Blk) (w : World) : Post B rb G st w G st w :=
  ⟨rfl, rfl, rfl, Nat.le_refl _, fun _ _ _ => rfl, fun _ _ _ => ⟨rfl, rfl⟩, Nat.le_refl _, fun _ _ h => h, fun _ h => .inl h, fun _ h => h, fun b blk h => ⟨blk, h, KEv.refl blk⟩, fun b' blk' g h1 h2 h3 => .inr ⟨b', blk', h1, h2, h3⟩⟩

theorem Post.trans {B : Nat} {rb : Nat → Bool} {G G1 G2 : Gh} {st st1 st2 : List Blk} {w w1 w2 : World} (h : Post B rb G st w G1 st1 w1) (k : Post B rb G1 st1 w1 G2 st2 w2) : Post B rb G st w G2 st2 w2 where
  os := k.os.trans h.os
  tape := k.tape.trans h.tape
  output := k.output.trans h.output
  size := Nat.le_trans h.size k.size
  frame := fun g hg hb => by
    rw [k.frame g (Nat.lt_of_lt_of_le hg h.size) fun b blk h1 h2 => ?_]
    · exact h.frame g hg hb
    · cases hr : rb b with
      | true => rfl
      | false =>
        rcases h.placed b blk g h1 h2 hr with h3 | ⟨b0, blk0, h3, h4, h5⟩
        · omega
        · rw [hb b0 blk0 h3 h4] at h5; cases h5
  keep := fun b hb hl => by
    obtain ⟨e1, e2⟩ := h.keep b hb hl
    obtain ⟨e3, e4⟩ := k.keep b hb (Nat.lt_of_lt_of_le hl h.len)
    exact ⟨e3.trans e1, e4.trans e2⟩
  len := Nat.le_trans h.len k.len
  ext := fun c v hc => k.ext c v (h.ext c v hc)
  S := fun g hg => by
    rcases k.S g hg with h1 | h1
    · exact h.S g h1
    · exact .inr h1
  mono := fun g hg => k.mono g (h.mono g hg)
  ev := fun b blk hb => by
    obtain ⟨blk1, h1, h2⟩ := h.ev b blk hb
    obtain ⟨blk2, h3, h4⟩ := k.ev b blk1 h1
    exact ⟨blk2, h3, h2.trans h4⟩
  placed := fun b' blk' g h1 h2 h3 => by
    rcases k.placed b' blk' g h1 h2 h3 with h4 | ⟨b, blk, h4, h5, h6⟩
    · exact .inl (Nat.le_trans h.size h4)
    · exact h.placed b blk g h4 h5 h6

/-- Fewer blocks may be written: what was left by the one is left by the other. -/
theorem Post.weaken {B : Nat} {rb rb' : Nat → Bool} {G G' : Gh} {st st' : List Blk} {w w' : World} (hr : ∀ b, rb b = true → rb' b = true) (hlt : ∀ b, rb' b = true → rb b = false → b < st.length) (h : Post B rb' G st w G' st' w') : Post B rb G st w G' st' w' where
  os := h.os
  tape := h.tape
  output := h.output
  size := h.size
  frame := fun g hg hb => h.frame g hg fun b blk h1 h2 => hr b (hb b blk h1 h2)
  keep := fun b hb hl => h.keep b (hr b hb) hl
  len := h.len
  ext := h.ext
  S := h.S
  mono := h.mono
  ev := h.ev
  placed := fun b' blk' g h1 h2 h3 => by
    cases h4 : rb' b' with
    | false =>
      rcases h.placed b' blk' g h1 h2 h4 with h5 | ⟨b, blk, h5, h6, h7⟩
      · exact .inl h5
      · refine .inr ⟨b, blk, h5, h6, ?_⟩
        cases h8 : rb b with
        | false => rfl
        | true => rw [hr b h8] at h7; cases h7
    | true =>
      have hl := hlt b' h4 h3
      obtain ⟨e1, e2⟩ := h.keep b' h4 hl
      refine .inr ⟨b', blk', e1 ▸ h1, ?_, h3⟩
      rw [← h2]
      cases blk' <;> simp only [conc, e2]

/-! ### How blocks may turn without what is known of values turning -/
/-- How a block may turn. -/
def BEv (G : Gh) (b : Nat) (G' : Gh) (w' : World) : Blk → Blk → Prop
  | .cells _ _, .cells _ _ => True
  | .cells _ _, .dead => True
  | .row ver _ t _, .row ver' _ t' _ => ver < ver' ∨ (ver = ver' ∧ t = t' ∧ G'.m b = G.m b)
  | .row ver _ _ _, .frz ver' t' xs' => ver = ver' ∧ ∀ v, G.m b = .hdr v → Rep G'.S w' (.sl t') xs' [v]
  | .row _ _ _ _, .dead => True
  | .frz ver t xs, .frz ver' t' xs' => ver = ver' ∧ ∃ h : t = t', h ▸ xs = xs'
  | .frz _ _ _, .dead => True
  | .arr _ t _, .arr _ t' _ => t = t'
  | .arr _ _ _, .dead => True
  | .iter _ _, .iter _ _ => True
  | .iter _ _, .dead => True
  | .dead, .dead => True
  | _, _ => False

theorem BEv.kind {G G' : Gh} {b : Nat} {w' : World} {x y : Blk} (h : BEv G b G' w' x y) : KEv x y := by
  cases x <;> cases y <;> simp only [BEv] at h <;> simp only [KEv]
  exact h

theorem RCV.evolve {G G' : Gh} {st st' : List Blk} {w w' : World} (hS : ∀ g, G.S g → G'.S g) (hw : ∀ g, G.S g → w'.heap[g]? = w.heap[g]?)
    (hl : st.length ≤ st'.length) (hm : ∀ b g, b < st.length → G.m b = .at_ g → G'.m b = .at_ g)
    (hb : ∀ b blk, st[b]? = some blk → ∃ blk', st'[b]? = some blk' ∧ BEv G b G' w' blk blk') : ∀ c v, RCV G st w c v → RCV G' st' w' c v := by
  intro c v h
  cases c with
  | any => trivial
  | undef => exact h
  | v t x => exact Rep.mono hS hw h
  | ptr b off =>
    obtain ⟨h1, g, h2, h3⟩ := h
    exact ⟨Nat.lt_of_lt_of_le h1 hl, g, hm b g h1 h2, h3⟩
  | selfp b off =>
    obtain ⟨h1, g, h2, h3⟩ := h
    exact ⟨Nat.lt_of_lt_of_le h1 hl, g, hm b g h1 h2, h3⟩
  | slc b n =>
    obtain ⟨h1, g, h2, h3⟩ := h
    exact ⟨Nat.lt_of_lt_of_le h1 hl, g, hm b g h1 h2, h3⟩
  | eptr b n i off =>
    simp only [RCV] at h ⊢
    cases hst : st[b]? with
    | none => rw [hst] at h; exact h.elim
    | some blk =>
      obtain ⟨blk', e, hev⟩ := hb b blk hst
      have hlt : b < st.length := (List.getElem?_eq_some_iff.1 hst).1
      rw [hst] at h
      rw [e]
      cases blk <;> cases blk' <;> simp only [BEv] at hev <;> first | exact hev.elim | trivial | exact h.elim | skip
      · obtain ⟨h1, h2⟩ := h
        rcases hev with hlt' | ⟨e1, e2, e3⟩
        · exact ⟨by omega, fun e => by omega⟩
        · subst e1; subst e2
          refine ⟨h1, fun e => ?_⟩
          obtain ⟨hh, g, h3, h4, h5⟩ := h2 e
          exact ⟨hh, g, e3.trans h3, h4, h5⟩
      · obtain ⟨g, h1, h2⟩ := h
        subst hev
        exact ⟨g, hm b g hlt h1, h2⟩
  | rptr t x off =>
    obtain ⟨ad, cs, h1, h2, h3, h4⟩ := h
    exact ⟨ad, cs, h1, hS _ h2, h3.mono hS hw, h4.mono (hw _ h2)⟩
  | own b n =>
    simp only [RCV] at h ⊢
    cases hst : st[b]? with
    | none => rw [hst] at h; exact h.elim
    | some blk =>
      obtain ⟨blk', e, hev⟩ := hb b blk hst
      rw [hst] at h
      rw [e]
      cases blk <;> cases blk' <;> simp only [BEv] at hev <;> first | exact hev.elim | trivial | exact h.elim | skip
      · obtain ⟨h1, h2⟩ := h
        rcases hev with hlt' | ⟨e1, e2, e3⟩
        · exact ⟨by omega, fun e => by omega⟩
        · subst e1
          exact ⟨h1, fun e => e3.trans (h2 e)⟩
      · obtain ⟨h1, h2⟩ := h
        obtain ⟨e1, h3⟩ := hev
        subst e1
        exact ⟨h1, fun e => h3 v (h2 e)⟩
      · obtain ⟨h1, h2⟩ := h
        obtain ⟨e1, e2, e3⟩ := hev
        subst e1; subst e2; subst e3
        exact ⟨h1, fun e => (h2 e).mono hS hw⟩
  | nilsl => exact h
  | nilptr => exact h
  | nilfn => exact h
  | fn f cap =>
    obtain ⟨vs, h1, h2, h3⟩ := h
    refine ⟨vs, h1, h2, fun i p hp => ?_⟩
    obtain ⟨h4, g, h5, h6⟩ := h3 i p hp
    exact ⟨Nat.lt_of_lt_of_le h4 hl, g, hm _ g h4 h5, h6⟩

theorem BEv.refl {G G' : Gh} {b : Nat} {w' : World} (hm : G'.m b = G.m b) (blk : Blk) (hf : ∀ ver t xs, blk = .frz ver t xs → True) : BEv G b G' w' blk blk := by
  cases blk <;> simp [BEv, hm]

end Go.Rf

