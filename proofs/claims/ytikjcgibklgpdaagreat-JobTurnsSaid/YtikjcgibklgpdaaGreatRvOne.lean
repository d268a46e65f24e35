/-
  RvA: the abstract machine's values, objects, instructions, and what an instruction does. By an AI agent (this session). No fact about the model stands here.
  RvB: how abstract values and objects stand for the model's; what a step keeps.
  RvC: the model's code turned into the abstract machine's: types looked up, functions renumbered. 'compF P inv idx fn = some cf': cf tells fn. What is not served: none.
  RvD: laws on the relation: an object made, an object turned; cells read and written.
  RvE: operands; loads and stores; what an operation does in the model is what 'aop' says (first part).
  RvF: loads, stores, new objects: the model's operation does what 'aop' says.
  RvG: stores, new objects, structs built: the model's operation does what 'aop' says.
  RvH: further operations: new objects, structs built, slices, strings, conversions.
  RvI: numbers, strings, bools, conversions, slices, maps' lengths: the model's operation does what 'aop' says.
-/
import GoSem.Core.Code
import GoSem.Core.View
import Derived.RangeFuncLeaves
import Derived.Laws.World
import Derived.Laws.Cells
import Derived.Laws.Entries
import Derived.Laws.Slices
import Derived.Laws.Strings
import Derived.CallsIn
set_option linter.unusedSimpArgs false
set_option linter.unusedVariables false
set_option linter.unusedSectionVars false

namespace Go.Rv

/-- Abstract values. 'ptr': into an object of cells; 'eptr': into an element of a row that may be written; 'iptr': into memory that is never written again, by what lies there; 'slice': of a row; 'islice': of memory that is never written again, by its elements; 'junk': anything. -/
inductive AVal where
  | junk
  | bool (b : Bool)
  | int (k : IntKind) (n : Int)
  | str (s : List Nat)
  | nilPtr
  | ptr (id off : Nat)
  | eptr (id gen i off : Nat)
  | iptr (cs : List AVal)
  | nilSlice
  | slice (id gen off len : Nat)
  | islice (sz : Nat) (es : List AVal)
  | nilMap
  | map (id : Nat)
  | func (f : Nat) (first caps : List AVal)
  | nilFunc
  | yld (id : Nat)
  | nilIface
  | opq (v : Value)
  | agg (cs : List AVal)
  | tuple (vs : List AVal)
  deriving Inhabited

def AVal.cells : AVal → List AVal
  | .agg cs => cs
  | v => [v]

/-- The cells of a value that surely has as many. -/
def AVal.sure : AVal → Option (List AVal)
  | .agg cs => some cs
  | .junk => none
  | .tuple _ => none
  | v => some [v]

inductive Opd where
  | t (n : Nat)
  | c (v : AVal)
  deriving Inhabited

/-- A type's kind, where values alone don't tell what '==' asks. -/
inductive BK where
  | bool | ptr | slice | map
  deriving Inhabited

/-- A flat type's kind. -/
inductive FK where
  | int | str | bool
  deriving Inhabited

/-- A map's key type: one flat cell, or a struct of flat cells. -/
inductive KK where
  | one (f : FK)
  | many (fs : List FK)
  deriving Inhabited

/-- Instructions: the model's operations with what the types say already looked up. -/
inductive Ins where
  /-- an operation that is not served: never run -/
  | bad
  | move (x : Opd)
  | pick (c a b : Opd)
  | alloc (z : List AVal)
  | box (x : Opd)
  | build (z : List AVal) (parts : List (Nat × Nat × Opd))
  | buildSlice (sz n : Nat) (z : AVal) (parts : List (Nat × Opd))
  | load (agg : Bool) (n : Nat) (a : Opd)
  | store (n : Nat) (a v : Opd)
  | nilCheck (x : Opd)
  | bin (op : BinOp) (x y : Opd)
  | binK (k : BK) (op : BinOp) (x y : Opd)
  | eqAgg (neg : Bool) (ks : List FK) (x y : Opd)
  | not (x : Opd)
  | conv (k : IntKind) (x : Opd)
  | strId (x : Opd)
  | toBytes (x : Opd)
  | toStr (x : Opd)
  | makeFunc (f : Nat) (first caps : List Opd)
  | makeMap
  | makeSlice (sz bytes : Nat) (z : AVal) (len cap : Opd)
  | sliceStr (x : Opd) (lo hi : Option Opd)
  | sliceRow (sz : Nat) (x : Opd) (lo hi : Option Opd)
  | fieldAddr (off : Nat) (x : Opd)
  | field (agg : Bool) (off n : Nat) (x : Opd)
  | indexAddr (sz : Nat) (x i : Opd)
  | indexArr (len sz : Nat) (x i : Opd)
  | indexStr (x i : Opd)
  | indexAgg (len sz : Nat) (agg : Bool) (x i : Opd)
  | lookup (kk : KK) (z : AVal) (m k : Opd) (ok : Bool)
  | mapUpdate (kk : KK) (m k v : Opd)
  | delete (kk : KK) (m k : Opd)
  | extract (x : Opd) (i : Nat)
  | lenStr (x : Opd)
  | lenSlice (x : Opd)
  | lenMap (x : Opd)
  | append (sz bytes : Nat) (x y : Opd)
  | copy (sz : Nat) (x y : Opd)
  | min2 (x y : Opd)
  | max2 (x y : Opd)
  | call (f : Nat) (args : List Opd)
  | callv (f : Opd) (args : List Opd)
  deriving Inhabited

structure COp where
  dst : Option Nat
  guard : Option (Nat × Bool)
  ins : Ins
  deriving Inhabited

inductive CCode where
  | skip
  | region (ops : List COp)
  /-- a region that draws its order: with each operation the earlier ones that come before it in every order -/
  | regionD (ops : List (COp × List Nat))
  | seq (a b : CCode)
  | cond (c : Opd) (a b : CCode)
  | block (id : Nat) (b : CCode)
  | loop (b : CCode)
  | rangeFunc (f : Opd) (params : List Nat) (assign body : CCode)
  | exit (id : Nat)
  | ret
  /-- code that is not served: never run -/
  | bad
  deriving Inhabited

/-- Objects. 'un': no object yet (or never again); 'dead': one that is no longer told of. -/
inductive AObj where
  | un
  | dead
  | cells (cs : List AVal)
  | row (sz gen : Nat) (es : List AVal)
  | map (es : List (AVal × AVal))
  | loop (st : LoopState) (pend : Option Code) (T : List AVal) (ps : List Nat) (assign body : CCode)
  deriving Inhabited

abbrev AHeap := List AObj

inductive RVar where
  | tmp (t : Nat)
  | cell (t : Nat) (agg : Bool) (n : Nat)
  deriving Inhabited

structure CFunc where
  nparams : Nat
  ntmps : Nat
  results : List RVar
  body : CCode
  deriving Inhabited

/-- What an operation turns in the heap. -/
inductive Eff where
  | none
  | alloc (o : AObj)
  | set (id : Nat) (o : AObj)

def Eff.app (e : Eff) (H : AHeap) : AHeap :=
  match e with
  | .none => H
  | .alloc o => H ++ [o]
  | .set id o => H.set id o

def undefA : AVal := .tuple []

def ev (T : List AVal) : Opd → AVal
  | .t n => T.getD n undefA
  | .c v => v

def put (T : List AVal) (d : Option Nat) (v : AVal) : List AVal :=
  match d with
  | none => T
  | some d => T.set d v

def splice (cs : List AVal) (off n : Nat) (vs : List AVal) : List AVal := cs.take off ++ vs ++ cs.drop (off + n)

/-- n cells from off on, as a value. -/
def readAt (agg : Bool) (n off : Nat) (cs : List AVal) : Option AVal :=
  match agg with
  | true => match decide (off + n ≤ cs.length) with
    | true => some (.agg ((cs.drop off).take n))
    | false => none
  | false => cs[off]?

def lessB : List Nat → List Nat → Bool
  | _, [] => false
  | [], _ :: _ => true
  | a :: x, b :: y => decide (a < b) || (a == b && lessB x y)

/-- '==' of what holds no pointer. -/
def eqF : FK → AVal → AVal → Option Bool
  | .int, .int k a, .int k' b => if k = k' then some (a == b) else none
  | .str, .str a, .str b => some (a == b)
  | .bool, .bool a, .bool b => some (a == b)
  | _, _, _ => none

def eqFs : List FK → List AVal → List AVal → Option Bool
  | [], [], [] => some true
  | f :: fs, a :: x, b :: y => match eqF f a b with
    | some true => eqFs fs x y
    | some false => some false
    | none => none
  | _, _, _ => none

def keyEq : KK → AVal → AVal → Option Bool
  | .one f, a, b => eqF f a b
  | .many fs, .agg a, .agg b => eqFs fs a b
  | _, _, _ => none

/-- Is this a key of the kind? -/
def fitF : FK → AVal → Bool
  | .int, .int _ _ => true
  | .str, .str _ => true
  | .bool, .bool _ => true
  | _, _ => false

def fitFs : List FK → List AVal → Bool
  | [], [] => true
  | f :: fs, a :: x => fitF f a && fitFs fs x
  | _, _ => false

def keyFit : KK → AVal → Bool
  | .one f, a => fitF f a
  | .many fs, .agg a => fitFs fs a
  | _, _ => false

/-- The place of a key among entries, and the entry's value. -/
def mapFind (kk : KK) : List (AVal × AVal) → AVal → Nat → Option (Option (Nat × AVal))
  | [], k, _ => match keyFit kk k with
    | true => some none
    | false => none
  | e :: es, k, i => match keyEq kk k e.1 with
    | some true => some (some (i, e.2))
    | some false => mapFind kk es k (i + 1)
    | none => none

def ibits (wr : IntKind → Int → Int) (op : BinOp) (k : IntKind) (a b : Int) : Option Int :=
  match op with
  | .and => some (wr k (BitVec.ofInt k.bits a &&& BitVec.ofInt k.bits b).toNat)
  | .or => some (wr k (BitVec.ofInt k.bits a ||| BitVec.ofInt k.bits b).toNat)
  | .xor => some (wr k (BitVec.ofInt k.bits a ^^^ BitVec.ofInt k.bits b).toNat)
  | .andNot => some (wr k (BitVec.ofInt k.bits a &&& ~~~BitVec.ofInt k.bits b).toNat)
  | _ => none

def intOp (wr : IntKind → Int → Int) (op : BinOp) (k : IntKind) (a b : Int) : Option AVal :=
  match op with
  | .add => some (.int k (wr k (a + b)))
  | .sub => some (.int k (wr k (a - b)))
  | .mul => some (.int k (wr k (a * b)))
  | .quo => if b = 0 then none else some (.int k (wr k (a.tdiv b)))
  | .rem => if b = 0 then none else some (.int k (a.tmod b))
  | .eql => some (.bool (a == b))
  | .neq => some (.bool (a != b))
  | .lss => some (.bool (decide (a < b)))
  | .leq => some (.bool (decide (a ≤ b)))
  | .gtr => some (.bool (decide (a > b)))
  | .geq => some (.bool (decide (a ≥ b)))
  | _ => (ibits wr op k a b).map (.int k ·)

def strOp (op : BinOp) (a b : List Nat) : Option AVal :=
  match op with
  | .add => if a.length + b.length ≤ 4611686018427387904 then some (.str (a ++ b)) else none
  | .eql => some (.bool (a == b))
  | .neq => some (.bool (!(a == b)))
  | .lss => some (.bool (lessB a b))
  | .leq => some (.bool (lessB a b || a == b))
  | .gtr => some (.bool (!(lessB a b || a == b)))
  | .geq => some (.bool (!lessB a b))
  | _ => none

/-- Is there such an object still? -/
def liveC (H : AHeap) (id : Nat) : Bool :=
  match H[id]? with
  | some (.cells _) => true
  | _ => false
def liveR (H : AHeap) (id gen sz : Nat) : Bool :=
  match H[id]? with
  | some (.row s g _) => decide (g = gen ∧ s = sz)
  | _ => false
def liveG (H : AHeap) (id gen : Nat) : Bool :=
  match H[id]? with
  | some (.row _ g _) => decide (g = gen)
  | _ => false
def liveM (H : AHeap) (id : Nat) : Bool :=
  match H[id]? with
  | some (.map _) => true
  | _ => false

/-- '==' of bools; of a pointer, a slice, a map held against nil. -/
def eqK (H : AHeap) : BK → AVal → AVal → Option Bool
  | .bool, .bool a, .bool b => some (a == b)
  | .ptr, .nilPtr, .nilPtr => some true
  | .ptr, .ptr id _, .nilPtr => bif liveC H id then some false else none
  | .ptr, .eptr id gen _ _, .nilPtr => bif liveG H id gen then some false else none
  | .ptr, .iptr _, .nilPtr => some false
  | .slice, .nilSlice, .nilSlice => some true
  | .slice, .slice id gen _ _, .nilSlice => bif liveG H id gen then some false else none
  | .slice, .islice _ _, .nilSlice => some false
  | .map, .nilMap, .nilMap => some true
  | .map, .map id, .nilMap => bif liveM H id then some false else none
  | _, _, _ => none

def binOp (wr : IntKind → Int → Int) (op : BinOp) (x y : AVal) : Option AVal :=
  match x, y with
  | .int k a, .int k' b =>
    match op with
    | .shl => if b < 0 then none else some (.int k (wr k (a * 2 ^ (min b.toNat k.bits))))
    | .shr => if b < 0 then none else some (.int k (a.fdiv (2 ^ (min b.toNat k.bits))))
    | op => if k = k' then intOp wr op k a b else none
  | .str a, .str b => strOp op a b
  | _, _ => none

/-- The number behind an int that is no less than zero. -/
def natOf : AVal → Option Nat
  | .int _ n => if 0 ≤ n then some n.toNat else none
  | _ => none

def bound (T : List AVal) (d : Nat) : Option Opd → Option Nat
  | none => some d
  | some x => natOf (ev T x)

def fillA (cs : List AVal) : List (Nat × Nat × AVal) → Option (List AVal)
  | [] => some cs
  | (off, n, v) :: rest => match v.sure with
    | some vs => if vs.length = n ∧ off + n ≤ cs.length then fillA (splice cs off n vs) rest else none
    | none => none

/-- Are these values of sz cells each? -/
def allSure (sz : Nat) : List AVal → Bool
  | [] => true
  | v :: rest => match v.sure with
    | some vs => decide (vs.length = sz) && allSure sz rest
    | none => false

/-- The elements that a slice holds. -/
def elemsS (sz : Nat) (H : AHeap) : AVal → Option (List AVal)
  | .nilSlice => some []
  | .islice s es => if s = sz then some es else none
  | .slice id gen off len =>
    match H[id]? with
    | some (.row s g es) => if s = sz ∧ g = gen ∧ off + len ≤ es.length then some ((es.drop off).take len) else none
    | _ => none
  | _ => none

/-- The elements that a slice (or a string, as bytes) holds. -/
def elemsOf (sz : Nat) (H : AHeap) (a : AVal) : Option (List AVal) :=
  match a with
  | .str s => if sz = 1 then some (s.map fun b => AVal.int .u8 (Int.ofNat b)) else none
  | a => elemsS sz H a

def bytesOf : List AVal → Option (List Nat)
  | [] => some []
  | .int .u8 n :: rest => match decide (0 ≤ n ∧ n < 256) with
    | true => (match bytesOf rest with
      | some l => some (n.toNat :: l)
      | none => none)
    | false => none
  | _ :: _ => none

/-- **WHAT AN OPERATION DOES**: its value and what it turns; none: it is not told of (a panic, a stale pointer ..). 'nxt': the number of the object that it makes. -/
def aop (wr : IntKind → Int → Int) (nxt : Nat) (i : Ins) (T : List AVal) (H : AHeap) : Option (AVal × Eff) :=
  match i with
  | .bad => none
  | .move x => some (ev T x, .none)
  | .pick c a b => match ev T c with
    | .bool t => (match t with
      | true => some (ev T a, .none)
      | false => some (ev T b, .none))
    | _ => none
  | .alloc z => some (.ptr nxt 0, .alloc (.cells z))
  | .box x => match (ev T x).sure with
    | some cs => some (.ptr nxt 0, .alloc (.cells cs))
    | none => none
  | .build z parts => match fillA z (parts.map fun p => (p.1, p.2.1, ev T p.2.2)) with
    | some cs => some (.agg cs, .none)
    | none => none
  | .buildSlice sz n z parts =>
    if (parts.map (·.1)) = List.range n ∧ allSure sz (parts.map fun p => ev T p.2) = true ∧ z.cells.length = sz then
      some (.slice nxt 0 0 n, .alloc (.row sz 0 (parts.map fun p => ev T p.2)))
    else none
  | .load agg n a => match ev T a with
    | .ptr id off => (match H[id]? with
      | some (.cells cs) => (match readAt agg n off cs with
        | some v => some (v, .none)
        | none => none)
      | _ => none)
    | .eptr id gen i off => (match H[id]? with
      | some (.row _ g es) => if g = gen then (match es[i]? with
          | some e => (match readAt agg n off e.cells with
            | some v => some (v, .none)
            | none => none)
          | none => none) else none
      | _ => none)
    | .iptr cs => (match readAt agg n 0 cs with
      | some v => some (v, .none)
      | none => none)
    | _ => none
  | .store n a v => match (ev T v).sure with
    | some vs => if vs.length = n then (match ev T a with
      | .ptr id off => (match H[id]? with
        | some (.cells cs) => if off + n ≤ cs.length then some (undefA, .set id (.cells (splice cs off n vs))) else none
        | _ => none)
      | .eptr id gen i off => (match H[id]? with
        | some (.row sz g es) => if g = gen then (match es[i]? with
            | some e => (match decide (n = sz) with
              | true => if off = 0 then some (undefA, .set id (.row sz g (es.set i (ev T v)))) else none
              | false => if off + n ≤ e.cells.length ∧ e.cells.length = sz then some (undefA, .set id (.row sz g (es.set i (.agg (splice e.cells off n vs))))) else none)
            | none => none) else none
        | _ => none)
      | _ => none) else none
    | none => none
  | .nilCheck x => match ev T x with
    | .ptr id off => bif liveC H id then some (.ptr id off, .none) else none
    | .eptr id gen i off => bif liveG H id gen then some (.eptr id gen i off, .none) else none
    | .iptr cs => some (.iptr cs, .none)
    | .func f a b => some (.func f a b, .none)
    | _ => none
  | .bin op x y => match binOp wr op (ev T x) (ev T y) with
    | some v => some (v, .none)
    | none => none
  | .binK k op x y => match eqK H k (ev T x) (ev T y) with
    | some r => (match op with
      | .eql => some (.bool r, .none)
      | .neq => some (.bool (!r), .none)
      | _ => none)
    | none => none
  | .eqAgg neg ks x y => match ev T x, ev T y with
    | .agg a, .agg b => (match eqFs ks a b with
      | some r => some (.bool (bif neg then !r else r), .none)
      | none => none)
    | _, _ => none
  | .not x => match ev T x with
    | .bool b => some (.bool (!b), .none)
    | _ => none
  | .conv k x => match ev T x with
    | .int _ n => some (.int k (wr k n), .none)
    | _ => none
  | .strId x => match ev T x with
    | .str s => some (.str s, .none)
    | _ => none
  | .toBytes x => match ev T x with
    | .str s => some (.slice nxt 0 0 s.length, .alloc (.row 1 0 (s.map fun b => AVal.int .u8 (Int.ofNat b))))
    | _ => none
  | .toStr x => match elemsS 1 H (ev T x) with
    | some es => (match bytesOf es with
      | some s => some (.str s, .none)
      | none => none)
    | none => none
  | .makeFunc f first caps => some (.func f (first.map (ev T)) (caps.map (ev T)), .none)
  | .makeMap => some (.map nxt, .alloc (.map []))
  | .makeSlice sz bytes z len cap => match natOf (ev T len), natOf (ev T cap) with
    | some l, some c => if l ≤ c ∧ c * bytes ≤ 70368744177664 ∧ c ≤ 70368744177664 ∧ allSure sz [z] = true then
        some (.slice nxt 0 0 l, .alloc (.row sz 0 (List.replicate l z))) else none
    | _, _ => none
  | .sliceStr x lo hi => match ev T x with
    | .str s => (match bound T 0 lo, bound T s.length hi with
      | some l, some h => if l ≤ h ∧ h ≤ s.length then some (.str ((s.drop l).take (h - l)), .none) else none
      | _, _ => none)
    | _ => none
  | .sliceRow sz x lo hi => match ev T x with
    | .slice id gen off len => bif liveR H id gen sz then (match bound T 0 lo, bound T len hi with
        | some l, some h => if l ≤ h ∧ h ≤ len then some (.slice id gen (off + l) (h - l), .none) else none
        | _, _ => none) else none
    | .islice s es => if s = sz then (match bound T 0 lo, bound T es.length hi with
      | some l, some h => if l ≤ h ∧ h ≤ es.length then some (.islice s ((es.drop l).take (h - l)), .none) else none
      | _, _ => none) else none
    | .nilSlice => (match bound T 0 lo, bound T 0 hi with
      | some 0, some 0 => some (.nilSlice, .none)
      | _, _ => none)
    | _ => none
  | .fieldAddr off x => match ev T x with
    | .ptr id o => bif liveC H id then some (.ptr id (o + off), .none) else none
    | .eptr id gen i o => bif liveG H id gen then some (.eptr id gen i (o + off), .none) else none
    | .iptr cs => some (.iptr (cs.drop off), .none)
    | _ => none
  | .field agg off n x => match ev T x with
    | .agg cs => (match readAt agg n off cs with
      | some v => some (v, .none)
      | none => none)
    | _ => none
  | .indexAddr sz x i => match natOf (ev T i) with
    | some k => (match ev T x with
      | .slice id gen off len => bif liveR H id gen sz then (if k < len then some (.eptr id gen (off + k) 0, .none) else none) else none
      | .islice s es => if s = sz then (match es[k]? with
          | some e => some (.iptr e.cells, .none)
          | none => none) else none
      | _ => none)
    | none => none
  | .indexArr len sz x i => match natOf (ev T i) with
    | some k => if k < len then (match ev T x with
      | .ptr id o => bif liveC H id then some (.ptr id (o + k * sz), .none) else none
      | _ => none) else none
    | none => none
  | .indexStr x i => match ev T x with
    | .str s => (match natOf (ev T i) with
      | some k => (match s[k]? with
        | some b => some (.int .u8 (Int.ofNat b), .none)
        | none => none)
      | none => none)
    | _ => none
  | .indexAgg len sz agg x i => match natOf (ev T i) with
    | some k => if k < len then (match ev T x with
      | .agg cs => (match readAt agg sz (k * sz) cs with
        | some v => some (v, .none)
        | none => none)
      | _ => none) else none
    | none => none
  | .lookup kk z m k ok => match ev T m with
    | .map id => (match H[id]? with
      | some (.map es) => (match mapFind kk es (ev T k) 0 with
        | some (some (_, v)) => some (bif ok then .tuple [v, .bool true] else v, .none)
        | some none => some (bif ok then .tuple [z, .bool false] else z, .none)
        | none => none)
      | _ => none)
    | _ => none
  | .mapUpdate kk m k v => match ev T m with
    | .map id => (match H[id]? with
      | some (.map es) => (match mapFind kk es (ev T k) 0 with
        | some (some (i, _)) => some (undefA, .set id (.map (es.modify i fun e => (e.1, ev T v))))
        | some none => some (undefA, .set id (.map (es ++ [(ev T k, ev T v)])))
        | none => none)
      | _ => none)
    | _ => none
  | .delete kk m k => match ev T m with
    | .map id => (match H[id]? with
      | some (.map es) => (match mapFind kk es (ev T k) 0 with
        | some (some (i, _)) => some (undefA, .set id (.map (es.eraseIdx i)))
        | some none => some (undefA, .none)
        | none => none)
      | _ => none)
    | _ => none
  | .extract x i => match ev T x with
    | .tuple vs => (match vs[i]? with
      | some v => some (v, .none)
      | none => none)
    | _ => none
  | .lenStr x => match ev T x with
    | .str s => some (.int .i64 s.length, .none)
    | _ => none
  | .lenSlice x => match ev T x with
    | .nilSlice => some (.int .i64 0, .none)
    | .slice id gen _ len => bif liveG H id gen then some (.int .i64 len, .none) else none
    | .islice _ es => some (.int .i64 es.length, .none)
    | _ => none
  | .lenMap x => match ev T x with
    | .nilMap => some (.int .i64 0, .none)
    | .map id => (match H[id]? with
      | some (.map es) => some (.int .i64 es.length, .none)
      | _ => none)
    | _ => none
  | .append sz bytes x y => match elemsOf sz H (ev T y) with
    | some new => (match ev T x with
      | .nilSlice => (match new with
        | [] => some (.nilSlice, .none)
        | e :: r => if (e :: r).length * bytes ≤ 70368744177664 ∧ (e :: r).length ≤ 70368744177664 then some (.slice nxt 0 0 (e :: r).length, .alloc (.row sz 0 (e :: r))) else none)
      | .slice id gen off len => (match H[id]? with
        | some (.row s g es) => if s = sz ∧ g = gen ∧ off + len = es.length ∧ (len + new.length) * bytes ≤ 70368744177664 ∧ len + new.length ≤ 70368744177664 then
            some (.slice id (g + 1) 0 (len + new.length), .set id (.row s (g + 1) (es.drop off ++ new))) else none
        | _ => none)
      | _ => none)
    | none => none
  | .copy sz x y => match elemsOf sz H (ev T y) with
    | some src => (match ev T x with
      | .slice id gen off len => (match H[id]? with
        | some (.row s g es) => if s = sz ∧ g = gen ∧ off + len ≤ es.length then
            some (.int .i64 (min src.length len : Nat), .set id (.row s g (es.take off ++ src.take (min src.length len) ++ es.drop (off + min src.length len)))) else none
        | _ => none)
      | .nilSlice => some (.int .i64 0, .none)
      | _ => none)
    | none => none
  | .min2 x y => match ev T x, ev T y with
    | .int k a, .int k' b => if k = k' then some (.int k (if b < a then b else a), .none) else none
    | _, _ => none
  | .max2 x y => match ev T x, ev T y with
    | .int k a, .int k' b => if k = k' then some (.int k (if b > a then b else a), .none) else none
    | _, _ => none
  | .call _ _ | .callv _ _ => none

end Go.Rv

namespace Go.Rv

/-- One cell's value. -/
def oneC : Value → Bool
  | .agg _ | .tuple _ => false
  | _ => true

/-- Where a live object lies. 'top': for how many elements there is room from 'base' on. -/
structure Loc where
  blk : Nat
  base : Nat
  top : Nat
  sz : Nat
  gen : Nat

inductive St where
  | un
  | dead
  | live (l : Loc)

abbrev Phi := Nat → St

/-- The program, and which of its functions each function of the abstract machine is. -/
structure Env where
  P : Program
  idx : Nat → Option FuncId
  /-- blocks that lie outside of what is told of -/
  other : Nat → Prop := fun _ => False
  /-- which code of the abstract machine tells the model's -/
  cc : Code → CCode → Prop := fun _ _ => False


/-- A block that no object of φ lies in. -/
def Imm (E : Env) (φ : Phi) (w : World) (b : Nat) : Prop := (b < w.heap.size ∧ ¬ E.other b) ∧ ∀ id l, φ id = .live l → l.blk ≠ b

/-- The cells from o on hold vs. -/
def Reads (w : World) (b o : Nat) (vs : List Value) : Prop := ∀ i v, vs[i]? = some v → w.cell? ⟨b, o + i, none⟩ = some v

mutual
def VRel (E : Env) (φ : Phi) (w : World) : AVal → Value → Prop
  | .junk, _ => True
  | .bool b, v => v = .bool b
  | .int k n, v => v = .int k n
  | .str s, v => ∃ b : ByteArray, v = .string b ∧ b.data.toList.map UInt8.toNat = s
  | .nilPtr, v => v = .pointer none
  | .ptr id off, v => oneC v = true ∧ match φ id with
    | .un => False
    | .dead => True
    | .live l => l.gen = 0 → v = .pointer (some ⟨l.blk, off, none⟩)
  | .eptr id gen i off, v => oneC v = true ∧ match φ id with
    | .un => False
    | .dead => True
    | .live l => gen ≤ l.gen ∧ (gen = l.gen → v = .pointer (some ⟨l.blk, l.base + i * l.sz + off, none⟩))
  | .iptr cs, v => ∃ b o vs, v = .pointer (some ⟨b, o, none⟩) ∧ Imm E φ w b ∧ Reads w b o vs ∧ VsRel E φ w cs vs ∧ ∀ x ∈ vs, oneC x = true
  | .nilSlice, v => v = .slice none 0 0
  | .slice id gen off len, v => oneC v = true ∧ match φ id with
    | .un => False
    | .dead => True
    | .live l => gen ≤ l.gen ∧ (gen = l.gen → ∃ a cap, v = .slice (some a) len cap ∧ len ≤ cap ∧ off + cap ≤ l.top ∧ (cap = 0 ∨ a = ⟨l.blk, l.base + off * l.sz, none⟩))
  | .islice sz es, v => ∃ a cap, v = .slice (some a) es.length cap ∧ es.length ≤ cap ∧
      (es = [] ∨ (a.spot = none ∧ Imm E φ w a.block ∧ ∃ vs, Reads w a.block a.off vs ∧ ElsRel E φ w sz es vs))
  | .nilMap, v => v = .map none
  | .map id, v => oneC v = true ∧ match φ id with
    | .un => False
    | .dead => True
    | .live l => l.gen = 0 → v = .map (some l.blk)
  | .func f first caps, v => ∃ rf a b, E.idx f = some rf ∧ v = .func (.func rf) a b ∧ VsRel E φ w first a.toList ∧ VsRel E φ w caps b.toList
  | .nilFunc, v => v = .nilFunc
  | .yld id, v => oneC v = true ∧ match φ id with
    | .un => False
    | .dead => True
    | .live l => l.gen = 0 → v = .func (.yield l.blk) #[] #[]
  | .nilIface, v => v = .nilIface
  | .opq x, v => v = x ∧ oneC x = true
  | .agg cs, v => ∃ vs : Array Value, v = .agg vs ∧ VsRel E φ w cs vs.toList ∧ ∀ x ∈ vs.toList, oneC x = true
  | .tuple cs, v => ∃ vs : Array Value, v = .tuple vs ∧ VsRel E φ w cs vs.toList
def VsRel (E : Env) (φ : Phi) (w : World) : List AVal → List Value → Prop
  | [], vs => vs = []
  | a :: as, vs => match vs with
    | [] => False
    | v :: vs => VRel E φ w a v ∧ VsRel E φ w as vs
def ElsRel (E : Env) (φ : Phi) (w : World) (sz : Nat) : List AVal → List Value → Prop
  | [], vs => vs = []
  | e :: es, vs => ∃ x rest, VRel E φ w e x ∧ vs = x.cells.toList ++ rest ∧ (x.cells.size = sz ∧ 0 < sz) ∧ (∀ y ∈ x.cells.toList, oneC y = true) ∧ ElsRel E φ w sz es rest
end

/-- A map's entries. -/
def EntsRel (E : Env) (φ : Phi) (w : World) : List (AVal × AVal) → List MapEntry → Prop
  | [], ms => ms = []
  | e :: es, ms => match ms with
    | [] => False
    | m :: ms => VRel E φ w e.1 m.key ∧ VRel E φ w e.2 m.val ∧ EntsRel E φ w es ms

def unfrozen (n : Nat) (fr : Nat × Nat) : Prop := ∀ i, i < n → ¬ (fr.1 ≤ i ∧ i < fr.2)

def ORel (E : Env) (φ : Phi) (w : World) (st : St) : AObj → Prop
  | .un => st = .un
  | .dead => st = .dead
  | .cells cs => ∃ l arr el fr, st = .live l ∧ l.gen = 0 ∧ w.heap[l.blk]? = some (.cells arr el fr) ∧ VsRel E φ w cs arr.toList ∧ (∀ x ∈ arr.toList, oneC x = true) ∧ unfrozen arr.size fr
  | .row sz gen es => ∃ l arr el fr vs post, st = .live l ∧ l.sz = sz ∧ l.gen = gen ∧ w.heap[l.blk]? = some (.cells arr el fr) ∧
      arr.toList.drop l.base = vs ++ post ∧ ElsRel E φ w sz es vs ∧ l.base + l.top * sz ≤ arr.size ∧ es.length ≤ l.top ∧ unfrozen arr.size fr
  | .map es => ∃ l ents clk, st = .live l ∧ l.gen = 0 ∧ w.heap[l.blk]? = some (.map ents clk) ∧ EntsRel E φ w es ents.toList ∧
      (∀ m ∈ ents.toList, m.born < clk) ∧ (ents.toList.map (·.born)).Pairwise (· < ·)
  | .loop s pend T ps assign body => ∃ l r, st = .live l ∧ l.gen = 0 ∧ w.heap[l.blk]? = some (.loop r) ∧ r.state = s ∧ r.pending = pend ∧ VsRel E φ w T r.tmps.toList ∧ r.params.toList = ps ∧ E.cc r.assign assign ∧ E.cc r.body body

/-- The heap, as a function of the objects' numbers. -/
def HRel (E : Env) (φ : Phi) (w : World) (h : Nat → AObj) : Prop :=
  (∀ id, ORel E φ w (φ id) (h id)) ∧ ∀ i j li lj, φ i = .live li → φ j = .live lj → li.blk = lj.blk → i = j

def get (H : AHeap) (id : Nat) : AObj := H.getD id .un

/-- All but the heap and the number of draws is as it was. -/
def SameW (w w' : World) : Prop := w'.os = w.os ∧ w'.output = w.output ∧ w'.tape = w.tape

theorem SameW.refl (w : World) : SameW w w := ⟨rfl, rfl, rfl⟩
theorem SameW.trans {w w' w'' : World} (h : SameW w w') (k : SameW w' w'') : SameW w w'' := ⟨k.1.trans h.1, k.2.1.trans h.2.1, k.2.2.trans h.2.2⟩

/-- What every step keeps. -/
structure Keep (φ : Phi) (w : World) (φ' : Phi) (w' : World) : Prop where
  same : SameW w w'
  size : w.heap.size ≤ w'.heap.size
  keep : ∀ b, b < w.heap.size → (∀ id l, φ id = .live l → l.blk ≠ b) → w'.heap[b]? = w.heap[b]?
  fresh : ∀ id l', φ' id = .live l' → (∃ id0 l, φ id0 = .live l ∧ l.blk = l'.blk) ∨ w.heap.size ≤ l'.blk
  loops : ∀ (b : Nat) (r : Go.Loop), w.heap[b]? = some (Obj.loop r) → ∃ r' : Go.Loop, w'.heap[b]? = some (Obj.loop r')

/-- What becomes of an object. -/
def Goes (s s' : St) : Prop := (s = .dead → s' = .dead) ∧ ∀ l, s = .live l → s' = .dead ∨ ∃ l', s' = .live l' ∧ l.gen ≤ l'.gen ∧ (l'.gen = l.gen → l' = l)

theorem Goes.refl (s : St) : Goes s s := ⟨id, fun l h => .inr ⟨l, h, Nat.le_refl _, fun _ => rfl⟩⟩
theorem Goes.trans {s s' s'' : St} (h : Goes s s') (k : Goes s' s'') : Goes s s'' := by
  refine ⟨fun hd => k.1 (h.1 hd), fun l hl => ?_⟩
  rcases h.2 l hl with hd | ⟨l', hl', hg, he⟩
  · exact .inl (k.1 hd)
  · rcases k.2 l' hl' with hd | ⟨l'', hl'', hg', he'⟩
    · exact .inl hd
    · refine .inr ⟨l'', hl'', Nat.le_trans hg hg', fun e => ?_⟩
      have e1 : l'.gen = l.gen := by omega
      have e2 := he e1
      subst e2
      exact he' e

/-- What a step keeps, of the objects with a number below m. -/
structure ExtN (m : Nat) (φ : Phi) (w : World) (φ' : Phi) (w' : World) : Prop extends Keep φ w φ' w' where
  goes : ∀ id, id < m → Goes (φ id) (φ' id)

/-- What a step keeps. -/
structure Ext (φ : Phi) (w : World) (φ' : Phi) (w' : World) : Prop extends Keep φ w φ' w' where
  goes : ∀ id, Goes (φ id) (φ' id)

theorem Ext.toN {φ φ' : Phi} {w w' : World} (h : Ext φ w φ' w') (m : Nat) : ExtN m φ w φ' w' := ⟨h.toKeep, fun id _ => h.goes id⟩

theorem Keep.refl (φ : Phi) (w : World) : Keep φ w φ w := ⟨.refl _, Nat.le_refl _, fun _ _ _ => rfl, fun id l h => .inl ⟨id, l, h, rfl⟩, fun _ r h => ⟨r, h⟩⟩
theorem Ext.refl (φ : Phi) (w : World) : Ext φ w φ w := ⟨.refl _ _, fun _ => .refl _⟩

theorem Ext.of_heap {φ : Phi} {w w' : World} (h : w'.heap = w.heap) (hs : SameW w w') : Ext φ w φ w' :=
  ⟨⟨hs, by rw [h]; exact Nat.le_refl _, fun _ _ _ => by rw [h], fun id l h => .inl ⟨id, l, h, rfl⟩, fun _ r h' => ⟨r, by rw [h]; exact h'⟩⟩, fun _ => .refl _⟩

theorem Keep.trans {φ φ' φ'' : Phi} {w w' w'' : World} (h : Keep φ w φ' w') (k : Keep φ' w' φ'' w'') : Keep φ w φ'' w'' where
  same := h.same.trans k.same
  size := Nat.le_trans h.size k.size
  keep b hb hn := by
    rw [k.keep b (Nat.lt_of_lt_of_le hb h.size) ?_, h.keep b hb hn]
    intro id l' hl e
    rcases h.fresh id l' hl with ⟨id0, l, h0, e0⟩ | hge
    · exact hn id0 l h0 (e0.trans e)
    · omega
  fresh id l'' hl := by
    rcases k.fresh id l'' hl with ⟨id0, l', h0, e0⟩ | hge
    · rcases h.fresh id0 l' h0 with ⟨id1, l, h1, e1⟩ | hge
      · exact .inl ⟨id1, l, h1, e1.trans e0⟩
      · exact .inr (by omega)
    · exact .inr (by have := h.size; omega)
  loops b r hb := let ⟨r', h1⟩ := h.loops b r hb; k.loops b r' h1

theorem Ext.trans {φ φ' φ'' : Phi} {w w' w'' : World} (h : Ext φ w φ' w') (k : Ext φ' w' φ'' w'') : Ext φ w φ'' w'' := ⟨h.toKeep.trans k.toKeep, fun id => (h.goes id).trans (k.goes id)⟩
theorem ExtN.trans {m : Nat} {φ φ' φ'' : Phi} {w w' w'' : World} (h : ExtN m φ w φ' w') (k : ExtN m φ' w' φ'' w'') : ExtN m φ w φ'' w'' := ⟨h.toKeep.trans k.toKeep, fun id hi => (h.goes id hi).trans (k.goes id hi)⟩

theorem Keep.imm {E : Env} {φ φ' : Phi} {w w' : World} (h : Keep φ w φ' w') {b : Nat} (hb : Imm E φ w b) : Imm E φ' w' b := by
  refine ⟨⟨Nat.lt_of_lt_of_le hb.1.1 h.size, hb.1.2⟩, fun id l' hl e => ?_⟩
  rcases h.fresh id l' hl with ⟨id0, l, h0, e0⟩ | hge
  · exact hb.2 id0 l h0 (e0.trans e)
  · have := hb.1.1; omega

theorem Keep.heap_imm {E : Env} {φ φ' : Phi} {w w' : World} (h : Keep φ w φ' w') {b : Nat} (hb : Imm E φ w b) : w'.heap[b]? = w.heap[b]? := h.keep b hb.1.1 hb.2

theorem Keep.reads {E : Env} {φ φ' : Phi} {w w' : World} (h : Keep φ w φ' w') {b o : Nat} {vs : List Value} (hb : Imm E φ w b) (hr : Reads w b o vs) : Reads w' b o vs := by
  intro i v hi
  have := hr i v hi
  simpa [World.cell?, h.heap_imm hb] using this

/-- What values ask to be kept. -/
structure Sub (E : Env) (φ : Phi) (w : World) (φ' : Phi) (w' : World) : Prop where
  imm : ∀ {b : Nat}, Imm E φ w b → Imm E φ' w' b
  reads : ∀ {b o : Nat} {vs : List Value}, Imm E φ w b → Reads w b o vs → Reads w' b o vs
  dead : ∀ id, φ id = .dead → φ' id = .dead
  live : ∀ id l, φ id = .live l → φ' id = .dead ∨ ∃ l', φ' id = .live l' ∧ l.gen ≤ l'.gen ∧ (l'.gen = l.gen → l' = l)

theorem Ext.sub {E : Env} {φ φ' : Phi} {w w' : World} (h : Ext φ w φ' w') : Sub E φ w φ' w' := ⟨h.toKeep.imm, h.toKeep.reads, fun id => (h.goes id).1, fun id => (h.goes id).2⟩

mutual
theorem VRel.mono0 {E : Env} {φ φ' : Phi} {w w' : World} (h : Sub E φ w φ' w') : ∀ {a : AVal} {v : Value}, VRel E φ w a v → VRel E φ' w' a v
  | .junk, _, _ => by simp [VRel]
  | .bool b, v, hv => by simpa [VRel] using hv
  | .int k n, v, hv => by simpa [VRel] using hv
  | .str s, v, hv => by simpa [VRel] using hv
  | .nilPtr, v, hv => by simpa [VRel] using hv
  | .ptr id off, v, hv => by
    simp only [VRel] at hv ⊢
    obtain ⟨hone, hv⟩ := hv
    refine ⟨hone, ?_⟩
    cases hs : φ id with
    | un => rw [hs] at hv; exact hv.elim
    | dead => rw [h.dead id hs]; trivial
    | live l =>
      rw [hs] at hv
      rcases h.live id l hs with hd | ⟨l', hl', hg, he⟩
      · rw [hd]; trivial
      · rw [hl']
        intro h0
        have e0 : l'.gen = l.gen := by simp only at hv; omega
        have := he e0
        subst this
        exact hv h0
  | .eptr id gen i off, v, hv => by
    simp only [VRel] at hv ⊢
    obtain ⟨hone, hv⟩ := hv
    refine ⟨hone, ?_⟩
    cases hs : φ id with
    | un => rw [hs] at hv; exact hv.elim
    | dead => rw [h.dead id hs]; trivial
    | live l =>
      rw [hs] at hv
      obtain ⟨hle, hv⟩ := hv
      rcases h.live id l hs with hd | ⟨l', hl', hg, he⟩
      · rw [hd]; trivial
      · rw [hl']
        refine ⟨Nat.le_trans hle hg, fun h0 => ?_⟩
        have e0 : l'.gen = l.gen := by omega
        have := he e0
        subst this
        exact hv h0
  | .iptr cs, v, hv => by
    simp only [VRel] at hv ⊢
    obtain ⟨b, o, vs, rfl, hb, hr, hvs, h1⟩ := hv
    exact ⟨b, o, vs, rfl, h.imm hb, h.reads hb hr, VsRel.mono0 h hvs, h1⟩
  | .nilSlice, v, hv => by simpa [VRel] using hv
  | .slice id gen off len, v, hv => by
    simp only [VRel] at hv ⊢
    obtain ⟨hone, hv⟩ := hv
    refine ⟨hone, ?_⟩
    cases hs : φ id with
    | un => rw [hs] at hv; exact hv.elim
    | dead => rw [h.dead id hs]; trivial
    | live l =>
      rw [hs] at hv
      obtain ⟨hle, hv⟩ := hv
      rcases h.live id l hs with hd | ⟨l', hl', hg, he⟩
      · rw [hd]; trivial
      · rw [hl']
        refine ⟨Nat.le_trans hle hg, fun h0 => ?_⟩
        have e0 : l'.gen = l.gen := by omega
        have := he e0
        subst this
        exact hv h0
  | .islice sz es, v, hv => by
    simp only [VRel] at hv ⊢
    obtain ⟨a, cap, rfl, hc, hv⟩ := hv
    refine ⟨a, cap, rfl, hc, ?_⟩
    rcases hv with hv | ⟨hs, hb, vs, hr, hvs⟩
    · exact .inl hv
    · exact .inr ⟨hs, h.imm hb, vs, h.reads hb hr, ElsRel.mono0 h hvs⟩
  | .nilMap, v, hv => by simpa [VRel] using hv
  | .map id, v, hv => by
    simp only [VRel] at hv ⊢
    obtain ⟨hone, hv⟩ := hv
    refine ⟨hone, ?_⟩
    cases hs : φ id with
    | un => rw [hs] at hv; exact hv.elim
    | dead => rw [h.dead id hs]; trivial
    | live l =>
      rw [hs] at hv
      rcases h.live id l hs with hd | ⟨l', hl', hg, he⟩
      · rw [hd]; trivial
      · rw [hl']
        intro h0
        have e0 : l'.gen = l.gen := by simp only at hv; omega
        have := he e0
        subst this
        exact hv h0
  | .func f first caps, v, hv => by
    simp only [VRel] at hv ⊢
    obtain ⟨rf, a, b, hf, rfl, h1, h2⟩ := hv
    exact ⟨rf, a, b, hf, rfl, VsRel.mono0 h h1, VsRel.mono0 h h2⟩
  | .nilFunc, v, hv => by simpa [VRel] using hv
  | .yld id, v, hv => by
    simp only [VRel] at hv ⊢
    obtain ⟨hone, hv⟩ := hv
    refine ⟨hone, ?_⟩
    cases hs : φ id with
    | un => rw [hs] at hv; exact hv.elim
    | dead => rw [h.dead id hs]; trivial
    | live l =>
      rw [hs] at hv
      rcases h.live id l hs with hd | ⟨l', hl', hg, he⟩
      · rw [hd]; trivial
      · rw [hl']
        intro h0
        have e0 : l'.gen = l.gen := by simp only at hv; omega
        have := he e0
        subst this
        exact hv h0
  | .nilIface, v, hv => by simpa [VRel] using hv
  | .opq x, v, hv => by simpa [VRel] using hv
  | .agg cs, v, hv => by
    simp only [VRel] at hv ⊢
    obtain ⟨vs, rfl, h1, h2⟩ := hv
    exact ⟨vs, rfl, VsRel.mono0 h h1, h2⟩
  | .tuple cs, v, hv => by
    simp only [VRel] at hv ⊢
    obtain ⟨vs, rfl, h1⟩ := hv
    exact ⟨vs, rfl, VsRel.mono0 h h1⟩
theorem VsRel.mono0 {E : Env} {φ φ' : Phi} {w w' : World} (h : Sub E φ w φ' w') : ∀ {as : List AVal} {vs : List Value}, VsRel E φ w as vs → VsRel E φ' w' as vs
  | [], vs, hv => by simpa [VsRel] using hv
  | a :: as, vs, hv => by
    cases vs with
    | nil => simp [VsRel] at hv
    | cons v vs =>
      simp only [VsRel] at hv ⊢
      exact ⟨VRel.mono0 h hv.1, VsRel.mono0 h hv.2⟩
theorem ElsRel.mono0 {E : Env} {φ φ' : Phi} {w w' : World} (h : Sub E φ w φ' w') {sz : Nat} : ∀ {as : List AVal} {vs : List Value}, ElsRel E φ w sz as vs → ElsRel E φ' w' sz as vs
  | [], vs, hv => by simpa [ElsRel] using hv
  | a :: as, vs, hv => by
    simp only [ElsRel] at hv ⊢
    obtain ⟨x, rest, h1, h2, h3, h4, h5⟩ := hv
    exact ⟨x, rest, VRel.mono0 h h1, h2, h3, h4, ElsRel.mono0 h h5⟩
end

theorem EntsRel.mono0 {E : Env} {φ φ' : Phi} {w w' : World} (h : Sub E φ w φ' w') : ∀ {es : List (AVal × AVal)} {ms : List MapEntry}, EntsRel E φ w es ms → EntsRel E φ' w' es ms
  | [], ms, hv => by simpa [EntsRel] using hv
  | e :: es, ms, hv => by
    cases ms with
    | nil => simp [EntsRel] at hv
    | cons m ms =>
      simp only [EntsRel] at hv ⊢
      exact ⟨hv.1.mono0 h, hv.2.1.mono0 h, EntsRel.mono0 h hv.2.2⟩

theorem VRel.mono {E : Env} {φ φ' : Phi} {w w' : World} (h : Ext φ w φ' w') {a : AVal} {v : Value} (hv : VRel E φ w a v) : VRel E φ' w' a v := hv.mono0 h.sub
theorem VsRel.mono {E : Env} {φ φ' : Phi} {w w' : World} (h : Ext φ w φ' w') {as : List AVal} {vs : List Value} (hv : VsRel E φ w as vs) : VsRel E φ' w' as vs := hv.mono0 h.sub
theorem ElsRel.mono {E : Env} {φ φ' : Phi} {w w' : World} (h : Ext φ w φ' w') {sz : Nat} {as : List AVal} {vs : List Value} (hv : ElsRel E φ w sz as vs) : ElsRel E φ' w' sz as vs := hv.mono0 h.sub
theorem EntsRel.mono {E : Env} {φ φ' : Phi} {w w' : World} (h : Ext φ w φ' w') {es : List (AVal × AVal)} {ms : List MapEntry} (hv : EntsRel E φ w es ms) : EntsRel E φ' w' es ms := hv.mono0 h.sub

end Go.Rv

namespace Go.Rv

mutual
def absV : Value → Option AVal
  | .bool b => some (.bool b)
  | .int k n => some (.int k n)
  | .string s => some (.str (s.data.toList.map UInt8.toNat))
  | .pointer none => some .nilPtr
  | .slice none 0 0 => some .nilSlice
  | .map none => some .nilMap
  | .nilFunc => some .nilFunc
  | .nilIface => some .nilIface
  | .agg ⟨cs⟩ => match absVs cs with
    | some l => some (.agg l)
    | none => none
  | _ => none
def absVs : List Value → Option (List AVal)
  | [] => some []
  | v :: vs => match oneC v with
    | true => (match absV v with
      | some a => (match absVs vs with
        | some l => some (a :: l)
        | none => none)
      | none => none)
    | false => none
end

/-- What 'comp' takes: the program, and the numbers that the abstract machine gives its functions. -/
structure Num where
  P : Program
  inv : FuncId → Option Nat
  idx : Nat → Option FuncId
  other : Nat → Prop := fun _ => False


def Num.fn (N : Num) (f : FuncId) : Option Nat :=
  match N.inv f with
  | some c => if N.idx c = some f then some c else none
  | none => none

def cOpd (N : Num) : Operand → Option Opd
  | .tmp t => some (.t t)
  | .const v => match absV v with
    | some a => some (.c a)
    | none => none
  | .global _ => none
  | .func f => match N.fn f with
    | some c => some (.c (.func c [] []))
    | none => none

def cOpds (N : Num) : List Operand → Option (List Opd)
  | [] => some []
  | x :: xs => match cOpd N x, cOpds N xs with
    | some a, some l => some (a :: l)
    | _, _ => none

/-- None, or a turned operand. -/
def cOpt (N : Num) : Option Operand → Option (Option Opd)
  | none => some none
  | some x => match cOpd N x with
    | some a => some (some a)
    | none => none

def isAggT (P : Program) (t : TypeId) : Option Bool :=
  match P.underlying t with
  | some (.struct _) | some (.array _ _) => some true
  | some _ => some false
  | none => none

def sizeT (P : Program) (t : TypeId) : Option Nat := (P.info? t).map (·.size)
def bytesT (P : Program) (t : TypeId) : Option Nat := (P.info? t).map (·.bytes)
def zeroT (P : Program) (t : TypeId) : Option AVal :=
  match P.info? t with
  | some i => match i.zero with
    | some z => absV z
    | none => none
  | none => none

/-- A type of one flat cell whose '==' is that of its values. -/
def flatT (P : Program) (t : TypeId) : Option FK :=
  match P.underlying t with
  | some (.int _) => some .int
  | some .string => some .str
  | some .bool => some .bool
  | _ => none

/-- The fields of a struct whose '==' is that of its cells, one each, in order. -/
def flatFields (P : Program) : List Field → Nat → Option (List FK)
  | [], _ => some []
  | f :: fs, k => match flatT P f.type, flatFields P fs (k + 1) with
    | some x, some l => if f.name ≠ "_" ∧ f.offset = k then some (x :: l) else none
    | _, _ => none

/-- A flat struct's cells. -/
def flatStruct (P : Program) (t : TypeId) : Option (List FK) :=
  match P.underlying t with
  | some (.struct fs) => if P.stoodInHeld t = false ∧ P.eqGuardType P.depth t = false then flatFields P fs.toList 0 else none
  | _ => none

/-- A map's key type that is served. -/
def keyT (P : Program) (t : TypeId) : Option KK :=
  match P.underlying t with
  | some (.int _) => some (.one .int)
  | some .string => some (.one .str)
  | some (.struct _) => match flatStruct P t with
    | some l => some (.many l)
    | none => none
  | _ => none

def cParts (N : Num) : List (Nat × Operand) → Option (List (Nat × Opd))
  | [] => some []
  | (i, x) :: xs => match cOpd N x, cParts N xs with
    | some a, some l => some ((i, a) :: l)
    | _, _ => none

def cPlaces (N : Num) (place : Nat → Option (Nat × Nat)) : List (Nat × Operand) → Option (List (Nat × Nat × Opd))
  | [] => some []
  | (i, x) :: xs => match place i, cOpd N x, cPlaces N place xs with
    | some (off, n), some a, some l => some ((off, n, a) :: l)
    | _, _, _ => none

def fieldPlaces (P : Program) (fs : Array Field) (i : Nat) : Option (Nat × Nat) :=
  match fs[i]? with
  | some f => match sizeT P f.type with
    | some n => some (f.offset, n)
    | none => none
  | none => none

/-- Has a type's zero just sz cells? -/
def zeroFits (z : AVal) (sz : Nat) : Bool :=
  match z.sure with
  | some zs => decide (zs.length = sz ∧ 0 < sz)
  | none => false

def cIns (N : Num) (o : Op) : Option Ins :=
  let P := N.P
  match o with
  | .move x | .assign x => do some (.move (← cOpd N x))
  | .pick c a b => do some (.pick (← cOpd N c) (← cOpd N a) (← cOpd N b))
  | .alloc t => do
    let z ← zeroT P t
    let cs ← z.sure
    some (.alloc cs)
  | .box _ x => do some (.box (← cOpd N x))
  | .build t parts => match P.underlying t with
    | some (.struct fs) => do
      let z ← zeroT P t
      let cs ← z.sure
      if fs.all (fun f => (sizeT P f.type).isSome) then
        some (.build cs (← cPlaces N (fieldPlaces P fs) parts.toList))
      else none
    | some (.array _ e) => do
      let z ← zeroT P t
      let cs ← z.sure
      let sz ← sizeT P e
      some (.build cs (← cPlaces N (fun i => some (i * sz, sz)) parts.toList))
    | _ => none
  | .buildSlice t n parts => match P.underlying t with
    | some (.slice e) => do
      let z ← zeroT P e
      let sz ← sizeT P e
      if n * sz ≤ 16777216 ∧ zeroFits z sz = true then some (.buildSlice sz n z (← cParts N parts.toList)) else none
    | _ => none
  | .load t a => do some (.load (← isAggT P t) (← sizeT P t) (← cOpd N a))
  | .store t a v => do some (.store (← sizeT P t) (← cOpd N a) (← cOpd N v))
  | .nilCheck x => do some (.nilCheck (← cOpd N x))
  | .binOp op t x y _ => match P.underlying t with
    | some (.int _) | some .string => do some (.bin op (← cOpd N x) (← cOpd N y))
    | some .bool => do some (.binK .bool op (← cOpd N x) (← cOpd N y))
    | some (.pointer _) => do some (.binK .ptr op (← cOpd N x) (← cOpd N y))
    | some (.slice _) => do some (.binK .slice op (← cOpd N x) (← cOpd N y))
    | some (.map _ _) => do some (.binK .map op (← cOpd N x) (← cOpd N y))
    | some (.struct _) => do
      let n ← flatStruct P t
      match op with
      | .eql => some (.eqAgg false n (← cOpd N x) (← cOpd N y))
      | .neq => some (.eqAgg true n (← cOpd N x) (← cOpd N y))
      | _ => none
    | _ => none
  | .unOp op _ x => match op with
    | .not => do some (.not (← cOpd N x))
    | _ => none
  | .convert src dst x => match P.underlying src, P.underlying dst with
    | some (.int _), some (.int k) => do some (.conv k (← cOpd N x))
    | some .string, some .string => do some (.strId (← cOpd N x))
    | some .string, some (.slice e) => match P.underlying e with
      | some (.int .u8) => do some (.toBytes (← cOpd N x))
      | _ => none
    | some (.slice e), some .string => match P.underlying e with
      | some (.int .u8) => do
        if (← sizeT P e) = 1 then some (.toStr (← cOpd N x)) else none
      | _ => none
    | _, _ => none
  | .makeFunc (.func f) first caps => do some (.makeFunc (← N.fn f) (← cOpds N first.toList) (← cOpds N caps.toList))
  | .makeMap t none => match P.underlying t with
    | some (.map k _) => match keyT P k with
      | some _ => some .makeMap
      | none => none
    | _ => none
  | .makeSlice t l c => match P.underlying t with
    | some (.slice e) => do
      let z ← zeroT P e
      let sz ← sizeT P e
      if zeroFits z sz = true then some (.makeSlice sz (← bytesT P e) z (← cOpd N l) (← cOpd N c)) else none
    | _ => none
  | .slice t x lo hi none => match P.underlying t with
    | some .string => do some (.sliceStr (← cOpd N x) (← cOpt N lo) (← cOpt N hi))
    | some (.slice e) => do some (.sliceRow (← sizeT P e) (← cOpd N x) (← cOpt N lo) (← cOpt N hi))
    | _ => none
  | .fieldAddr t x f => match P.underlying t with
    | some (.struct fs) => match fs[f]? with
      | some fd => do
        if (← sizeT P fd.type) = 0 then none else some (.fieldAddr fd.offset (← cOpd N x))
      | none => none
    | _ => none
  | .field t x f => match P.underlying t with
    | some (.struct fs) => match fs[f]? with
      | some fd => do some (.field (← isAggT P fd.type) fd.offset (← sizeT P fd.type) (← cOpd N x))
      | none => none
    | _ => none
  | .indexAddr t x i => match P.underlying t with
    | some (.slice e) => do some (.indexAddr (← sizeT P e) (← cOpd N x) (← cOpd N i))
    | some (.array n e) => do some (.indexArr n (← sizeT P e) (← cOpd N x) (← cOpd N i))
    | _ => none
  | .index t x i => match P.underlying t with
    | some .string => do some (.indexStr (← cOpd N x) (← cOpd N i))
    | some (.array n e) => do some (.indexAgg n (← sizeT P e) (← isAggT P e) (← cOpd N x) (← cOpd N i))
    | _ => none
  | .lookup t m k ok => match P.underlying t with
    | some (.map kt e) => do some (.lookup (← keyT P kt) (← zeroT P e) (← cOpd N m) (← cOpd N k) ok)
    | _ => none
  | .mapUpdate t m k v => match P.underlying t with
    | some (.map kt _) => do some (.mapUpdate (← keyT P kt) (← cOpd N m) (← cOpd N k) (← cOpd N v))
    | _ => none
  | .insert t m k v => match P.underlying t with
    | some (.map kt _) => do some (.mapUpdate (← keyT P kt) (← cOpd N m) (← cOpd N k) (← cOpd N v))
    | _ => none
  | .extract x i => do some (.extract (← cOpd N x) i)
  | .call c => match c.callee with
    | .value (.func f) => do some (.call (← N.fn f) (← cOpds N c.args.toList))
    | .value f => do some (.callv (← cOpd N f) (← cOpds N c.args.toList))
    | .invoke _ _ => none
    | .builtin b => match b, c.argTypes.toList, c.args.toList with
      | .len, t :: _, [x] => match P.underlying t with
        | some .string => do some (.lenStr (← cOpd N x))
        | some (.slice _) => do some (.lenSlice (← cOpd N x))
        | some (.map _ _) => do some (.lenMap (← cOpd N x))
        | _ => none
      | .append, [t, u], [x, y] => match P.underlying t, P.underlying u with
        | some (.slice e), some d => match d with
          | .slice _ | .string => do
            let b ← bytesT P e
            let sz ← sizeT P e
            let z ← zeroT P e
            if b ≤ 65536 ∧ 0 < b ∧ zeroFits z sz = true then some (.append sz b (← cOpd N x) (← cOpd N y)) else none
          | _ => none
        | _, _ => none
      | .copy, [t, _], [x, y] => match P.underlying t with
        | some (.slice e) => do some (.copy (← sizeT P e) (← cOpd N x) (← cOpd N y))
        | _ => none
      | .delete, [t, _], [m, k] => match P.underlying t with
        | some (.map kt _) => do some (.delete (← keyT P kt) (← cOpd N m) (← cOpd N k))
        | _ => none
      | .min, _, [x, y] => do some (.min2 (← cOpd N x) (← cOpd N y))
      | .max, _, [x, y] => do some (.max2 (← cOpd N x) (← cOpd N y))
      | _, _, _ => none
  | _ => none

/-! ### Code turned -/

def cGuard (ops : Array Oper) : Option (Nat × Bool) → Option (Option (Nat × Bool))
  | none => some none
  | some (j, want) => match (ops[j]?).bind (·.dst) with
    | some t => some (some (t, want))
    | none => none

def Ins.isCall : Ins → Bool
  | .call _ _ | .callv _ _ => true
  | _ => false

def isCallOp : Op → Bool
  | .call c => (match c.callee with
    | .value _ => true
    | _ => false)
  | _ => false

def cOper (N : Num) (ops : Array Oper) (o : Oper) : COp :=
  match cGuard ops o.guard, cIns N o.op with
  | some g, some i => if i.isCall = isCallOp o.op then { dst := o.dst, guard := g, ins := i } else { dst := o.dst, guard := none, ins := .bad }
  | _, _ => { dst := o.dst, guard := none, ins := .bad }

def predsOf (o : Oper) : List Nat := (o.after.toList.filter (Region.binds .any)).map (·.on)

def compC (N : Num) : Code → CCode
  | .skip => .skip
  | .region _ ops draw => bif draw then .regionD ((ops.toList.map (cOper N ops)).zip (ops.toList.map predsOf)) else .region (ops.toList.map (cOper N ops))
  | .seq a b => .seq (compC N a) (compC N b)
  | .cond c a b => match cOpd N c with
    | some c => .cond c (compC N a) (compC N b)
    | none => .bad
  | .block id b => .block id (compC N b)
  | .loop b => .loop (compC N b)
  | .rangeFunc f ps a b => match cOpd N f with
    | some f => .rangeFunc f ps.toList (compC N a) (compC N b)
    | none => .bad
  | .exit id => .exit id
  | .ret => .ret
  | _ => .bad

/-! ### What lies outside does not matter -/

section withX
variable (P : Program) (inv : FuncId → Option Nat) (idx : Nat → Option FuncId) (o o' : Nat → Prop)

theorem cOpds_other : ∀ l, cOpds ⟨P, inv, idx, o⟩ l = cOpds ⟨P, inv, idx, o'⟩ l
  | [] => rfl
  | x :: l => by simp only [cOpds, cOpds_other l]; rfl
theorem cParts_other : ∀ l, cParts ⟨P, inv, idx, o⟩ l = cParts ⟨P, inv, idx, o'⟩ l
  | [] => rfl
  | (i, x) :: l => by simp only [cParts, cParts_other l]; rfl
theorem cPlaces_other (pl : Nat → Option (Nat × Nat)) : ∀ l, cPlaces ⟨P, inv, idx, o⟩ pl l = cPlaces ⟨P, inv, idx, o'⟩ pl l
  | [] => rfl
  | (i, x) :: l => by simp only [cPlaces, cPlaces_other pl l]; rfl
theorem cIns_other (i : Op) : cIns ⟨P, inv, idx, o⟩ i = cIns ⟨P, inv, idx, o'⟩ i := by
  cases i <;> simp only [cIns, cOpds_other P inv idx o o', cParts_other P inv idx o o', cPlaces_other P inv idx o o'] <;> first | rfl | skip
theorem cOper_other (ops : Array Oper) (x : Oper) : cOper ⟨P, inv, idx, o⟩ ops x = cOper ⟨P, inv, idx, o'⟩ ops x := by
  simp only [cOper, cIns_other P inv idx o o']
theorem cOper_fn_other (ops : Array Oper) : cOper ⟨P, inv, idx, o⟩ ops = cOper ⟨P, inv, idx, o'⟩ ops := by funext x; exact cOper_other P inv idx o o' ops x
theorem compC_other : ∀ c, compC ⟨P, inv, idx, o⟩ c = compC ⟨P, inv, idx, o'⟩ c := by
  intro c
  induction c with
  | region id ops draw => simp only [compC, cOper_fn_other P inv idx o o']
  | seq a b iha ihb => simp only [compC, iha, ihb]
  | cond c a b iha ihb => simp only [compC, iha, ihb]; rfl
  | block id b ih => simp only [compC, ih]
  | loop b ih => simp only [compC, ih]
  | rangeFunc f ps a b iha ihb => simp only [compC, iha, ihb]; rfl
  | _ => rfl
end withX

def Num.withX (N : Num) (X : Nat → Prop) : Num := { N with other := X }

theorem compC_withX (N : Num) (X : Nat → Prop) (c : Code) : compC (N.withX X) c = compC N c := compC_other N.P N.inv N.idx X N.other c

def Num.env (N : Num) : Env := { P := N.P, idx := N.idx, other := N.other, cc := fun c k => compC N c = k }
@[simp] theorem Num.env_P (N : Num) : N.env.P = N.P := rfl
theorem Num.cc_withX (N : Num) (X : Nat → Prop) : (N.withX X).env.cc = N.env.cc := by funext c k; simp only [Num.env, compC_withX]

end Go.Rv

namespace Go.Rv

def updP (φ : Phi) (id : Nat) (s : St) : Phi := fun j => if j = id then s else φ j
def updH (h : Nat → AObj) (id : Nat) (o : AObj) : Nat → AObj := fun j => if j = id then o else h j

@[simp] theorem updP_same (φ : Phi) (id : Nat) (s : St) : updP φ id s id = s := by simp [updP]
theorem updP_ne {φ : Phi} {id j : Nat} {s : St} (h : j ≠ id) : updP φ id s j = φ j := by simp [updP, h]
@[simp] theorem updH_same (h : Nat → AObj) (id : Nat) (o : AObj) : updH h id o id = o := by simp [updH]
theorem updH_ne {h : Nat → AObj} {id j : Nat} {o : AObj} (hj : j ≠ id) : updH h id o j = h j := by simp [updH, hj]

theorem heap_lt {w : World} {b : Nat} {o : Obj} (h : w.heap[b]? = some o) : b < w.heap.size := by
  rcases Nat.lt_or_ge b w.heap.size with h' | h'
  · exact h'
  · simp [Array.getElem?_eq_none h'] at h

/-- A live object's block is there. -/
theorem HRel.blk {E : Env} {φ : Phi} {w : World} {h : Nat → AObj} (H : HRel E φ w h) {id : Nat} {l : Loc} (hl : φ id = .live l) : l.blk < w.heap.size := by
  have := H.1 id
  rw [hl] at this
  cases ho : h id with
  | un => rw [ho] at this; simp [ORel] at this
  | dead => rw [ho] at this; simp [ORel] at this
  | cells cs =>
    rw [ho] at this
    obtain ⟨l', arr, el, fr, e, _, hb, _⟩ := this
    cases e
    exact heap_lt hb
  | row sz gen es =>
    rw [ho] at this
    obtain ⟨l', arr, el, fr, vs, post, e, _, _, hb, _⟩ := this
    cases e
    exact heap_lt hb
  | map es =>
    rw [ho] at this
    obtain ⟨l', ents, clk, e, _, hb, _⟩ := this
    cases e
    exact heap_lt hb
  | loop s pend T ps assign body =>
    rw [ho] at this
    obtain ⟨l', r, e, _, hb, _⟩ := this
    cases e
    exact heap_lt hb

theorem ORel.mono0 {E : Env} {φ φ' : Phi} {w w' : World} (h : Sub E φ w φ' w') {st : St} {o : AObj} (hb : ∀ l, st = .live l → w'.heap[l.blk]? = w.heap[l.blk]?)
    (ho : ORel E φ w st o) : ORel E φ' w' st o := by
  cases o with
  | un => exact ho
  | dead => exact ho
  | cells cs =>
    obtain ⟨l, arr, el, fr, rfl, hg, hh, hv, h1, hf⟩ := ho
    exact ⟨l, arr, el, fr, rfl, hg, (hb l rfl).trans hh, hv.mono0 h, h1, hf⟩
  | row sz gen es =>
    obtain ⟨l, arr, el, fr, vs, post, rfl, h1, h2, hh, h3, h4, h5⟩ := ho
    exact ⟨l, arr, el, fr, vs, post, rfl, h1, h2, (hb l rfl).trans hh, h3, h4.mono0 h, h5⟩
  | map es =>
    obtain ⟨l, ents, clk, rfl, hg, hh, hv, h1⟩ := ho
    exact ⟨l, ents, clk, rfl, hg, (hb l rfl).trans hh, EntsRel.mono0 h hv, h1⟩
  | loop s pend T ps assign body =>
    obtain ⟨l, r, rfl, hg, hh, h1, h2, hv, h3⟩ := ho
    exact ⟨l, r, rfl, hg, (hb l rfl).trans hh, h1, h2, VsRel.mono0 h hv, h3⟩

theorem ORel.mono {E : Env} {φ φ' : Phi} {w w' : World} (h : Ext φ w φ' w') {st : St} {o : AObj} (hb : ∀ l, st = .live l → w'.heap[l.blk]? = w.heap[l.blk]?)
    (ho : ORel E φ w st o) : ORel E φ' w' st o := ho.mono0 h.sub hb

/-- The world's heap alone counts. -/
theorem HRel.of_heap {E : Env} {φ : Phi} {w w' : World} {h : Nat → AObj} (e : w'.heap = w.heap) (hs : SameW w w') (H : HRel E φ w h) : HRel E φ w' h :=
  ⟨fun id => (H.1 id).mono (.of_heap e hs) fun _ _ => by rw [e], H.2⟩

/-- **ONE OBJECT IS MADE, OR TURNED.** -/
theorem HRel.upd {E : Env} {φ : Phi} {w w' : World} {h : Nat → AObj} (H : HRel E φ w h) {id : Nat} {l' : Loc} {o' : AObj}
    (hst : φ id = .un ∨ ∃ l, φ id = .live l ∧ l.gen ≤ l'.gen ∧ (l'.gen = l.gen → l' = l))
    (hsame : SameW w w') (hsz : w.heap.size ≤ w'.heap.size)
    (hkeep : ∀ b, b < w.heap.size → b ≠ l'.blk → w'.heap[b]? = w.heap[b]?)
    (hblk : (∃ l, φ id = .live l ∧ l.blk = l'.blk) ∨ w.heap.size ≤ l'.blk)
    (hloop : ∀ r : Go.Loop, w.heap[l'.blk]? = some (Obj.loop r) → ∃ r' : Go.Loop, w'.heap[l'.blk]? = some (Obj.loop r'))
    (ho : Ext φ w (updP φ id (.live l')) w' → ORel E (updP φ id (.live l')) w' (.live l') o') :
    Ext φ w (updP φ id (.live l')) w' ∧ HRel E (updP φ id (.live l')) w' (updH h id o') := by
  have hne : ∀ j lj, j ≠ id → φ j = .live lj → lj.blk ≠ l'.blk := by
    intro j lj hj hl e
    rcases hblk with ⟨l, hl0, e0⟩ | hge
    · exact hj (H.2 j id lj l hl hl0 (e.trans e0.symm))
    · have := H.blk hl; omega
  have ext : Ext φ w (updP φ id (.live l')) w' := by
    refine ⟨⟨hsame, hsz, ?_, ?_, ?_⟩, ?_⟩
    · intro b hb hn
      refine hkeep b hb fun e => ?_
      rcases hblk with ⟨l, hl0, e0⟩ | hge
      · exact hn id l hl0 (e0.trans e.symm)
      · omega
    · intro j lj hl
      by_cases hj : j = id
      · subst hj
        rw [updP_same] at hl; cases hl
        rcases hblk with ⟨l, hl0, e0⟩ | hge
        · exact .inl ⟨j, l, hl0, e0⟩
        · exact .inr hge
      · rw [updP_ne hj] at hl
        exact .inl ⟨j, lj, hl, rfl⟩
    · intro b r hb
      by_cases hbl : b = l'.blk
      · subst hbl; exact hloop r hb
      · exact ⟨r, by rw [hkeep b (heap_lt hb) hbl]; exact hb⟩
    · intro j
      by_cases hj : j = id
      · subst hj
        rw [updP_same]
        refine ⟨fun hd => ?_, fun l hl => ?_⟩
        · rcases hst with hs | ⟨l, hs, _⟩ <;> rw [hs] at hd <;> cases hd
        · rcases hst with hs | ⟨l0, hs, hg, he⟩
          · rw [hs] at hl; cases hl
          · rw [hs] at hl; cases hl
            exact .inr ⟨l', rfl, hg, he⟩
      · rw [updP_ne hj]; exact .refl _
  refine ⟨ext, fun j => ?_, ?_⟩
  · by_cases hj : j = id
    · subst hj
      rw [updP_same, updH_same]; exact ho ext
    · rw [updP_ne hj, updH_ne hj]
      refine (H.1 j).mono ext fun l hl => ?_
      exact hkeep _ (H.blk hl) (hne j l hj hl)
  · intro i j li lj hi hj e
    by_cases hi' : i = id
    · by_cases hj' : j = id
      · rw [hi', hj']
      · subst hi'
        rw [updP_same] at hi; cases hi
        rw [updP_ne hj'] at hj
        exact absurd e.symm (hne j lj hj' hj)
    · by_cases hj' : j = id
      · subst hj'
        rw [updP_same] at hj; cases hj
        rw [updP_ne hi'] at hi
        exact absurd e (hne i li hi' hi)
      · rw [updP_ne hi'] at hi
        rw [updP_ne hj'] at hj
        exact H.2 i j li lj hi hj e

/-- A new block, for an object that is made. -/
theorem HRel.alloc {E : Env} {φ : Phi} {w : World} {h : Nat → AObj} (H : HRel E φ w h) {id : Nat} (hid : φ id = .un) (o : Obj) {l' : Loc} (hl : l'.blk = w.heap.size) {o' : AObj}
    (ho : Ext φ w (updP φ id (.live l')) (w.alloc o) → ORel E (updP φ id (.live l')) (w.alloc o) (.live l') o') :
    Ext φ w (updP φ id (.live l')) (w.alloc o) ∧ HRel E (updP φ id (.live l')) (w.alloc o) (updH h id o') :=
  H.upd (.inl hid) ⟨rfl, rfl, rfl⟩ (by simp) (fun b hb _ => by simp only [World.alloc, Array.getElem?_push]; rw [if_neg (by omega)]) (.inr (by omega)) (fun r h => by rw [hl] at h; simp at h) ho

/-- A world with one block turned. -/
def setBlk (w : World) (b : Nat) (o : Obj) : World := { w with heap := w.heap.setIfInBounds b o }
@[simp] theorem setBlk_size (w : World) (b : Nat) (o : Obj) : (setBlk w b o).heap.size = w.heap.size := by simp [setBlk]
theorem setBlk_same {w : World} {b : Nat} {o : Obj} (h : b < w.heap.size) : (setBlk w b o).heap[b]? = some o := by simp [setBlk, h]
theorem setBlk_ne {w : World} {b c : Nat} {o : Obj} (h : c ≠ b) : (setBlk w b o).heap[c]? = w.heap[c]? := by
  simp only [setBlk]; rw [Array.getElem?_setIfInBounds_ne (Ne.symm h)]

/-- A live object turned where it lies. -/
theorem HRel.turn {E : Env} {φ : Phi} {w : World} {h : Nat → AObj} (H : HRel E φ w h) {id : Nat} {l l' : Loc} (hl : φ id = .live l) (hg : l.gen ≤ l'.gen) (he : l'.gen = l.gen → l' = l)
    (hb : l'.blk = l.blk) (o : Obj) (hloop : ∀ r : Go.Loop, w.heap[l.blk]? = some (Obj.loop r) → ∃ r' : Go.Loop, o = Obj.loop r') {o' : AObj}
    (ho : Ext φ w (updP φ id (.live l')) (setBlk w l.blk o) → ORel E (updP φ id (.live l')) (setBlk w l.blk o) (.live l') o') :
    Ext φ w (updP φ id (.live l')) (setBlk w l.blk o) ∧ HRel E (updP φ id (.live l')) (setBlk w l.blk o) (updH h id o') :=
  H.upd (.inr ⟨l, hl, hg, he⟩) ⟨rfl, rfl, rfl⟩ (by simp) (fun b _ hn => setBlk_ne (by rw [← hb]; exact hn)) (.inl ⟨l, hl, hb.symm⟩) (fun r h => by rw [hb] at h ⊢; obtain ⟨r', rfl⟩ := hloop r h; exact ⟨r', setBlk_same (heap_lt h)⟩) ho

/-! ### Lists of related values -/

theorem VsRel.length {E : Env} {φ : Phi} {w : World} : ∀ {as : List AVal} {vs : List Value}, VsRel E φ w as vs → as.length = vs.length
  | [], vs, h => by simp only [VsRel] at h; subst h; rfl
  | a :: as, vs, h => by
    cases vs with
    | nil => simp [VsRel] at h
    | cons v vs => simp only [VsRel] at h; simp [VsRel.length h.2]

theorem VsRel.get {E : Env} {φ : Phi} {w : World} : ∀ {as : List AVal} {vs : List Value}, VsRel E φ w as vs → ∀ {i : Nat} {a : AVal}, as[i]? = some a → ∃ v, vs[i]? = some v ∧ VRel E φ w a v
  | [], _, _, i, a, h => by simp at h
  | b :: as, vs, h, i, a, hi => by
    cases vs with
    | nil => simp [VsRel] at h
    | cons v vs =>
      simp only [VsRel] at h
      cases i with
      | zero => simp at hi; subst hi; exact ⟨v, rfl, h.1⟩
      | succ i => exact VsRel.get h.2 (by simpa using hi)

theorem VsRel.append {E : Env} {φ : Phi} {w : World} : ∀ {as : List AVal} {vs : List Value} {bs : List AVal} {us : List Value}, VsRel E φ w as vs → VsRel E φ w bs us → VsRel E φ w (as ++ bs) (vs ++ us)
  | [], vs, _, _, h, k => by simp only [VsRel] at h; subst h; exact k
  | a :: as, vs, _, _, h, k => by
    cases vs with
    | nil => simp [VsRel] at h
    | cons v vs => simp only [VsRel] at h; exact ⟨h.1, VsRel.append h.2 k⟩

theorem VsRel.take {E : Env} {φ : Phi} {w : World} : ∀ {as : List AVal} {vs : List Value} (n : Nat), VsRel E φ w as vs → VsRel E φ w (as.take n) (vs.take n)
  | [], vs, n, h => by simp only [VsRel] at h; subst h; simp [VsRel]
  | a :: as, vs, n, h => by
    cases vs with
    | nil => simp [VsRel] at h
    | cons v vs =>
      simp only [VsRel] at h
      cases n with
      | zero => simp [VsRel]
      | succ n => simp only [List.take_succ_cons, VsRel]; exact ⟨h.1, VsRel.take n h.2⟩

theorem VsRel.drop {E : Env} {φ : Phi} {w : World} : ∀ {as : List AVal} {vs : List Value} (n : Nat), VsRel E φ w as vs → VsRel E φ w (as.drop n) (vs.drop n)
  | [], vs, n, h => by simp only [VsRel] at h; subst h; simp [VsRel]
  | a :: as, vs, n, h => by
    cases vs with
    | nil => simp [VsRel] at h
    | cons v vs =>
      simp only [VsRel] at h
      cases n with
      | zero => exact ⟨h.1, h.2⟩
      | succ n => simp only [List.drop_succ_cons]; exact VsRel.drop n h.2

theorem VsRel.set {E : Env} {φ : Phi} {w : World} : ∀ {as : List AVal} {vs : List Value} (i : Nat) {a : AVal} {v : Value}, VsRel E φ w as vs → VRel E φ w a v → VsRel E φ w (as.set i a) (vs.set i v)
  | [], vs, i, _, _, h, _ => by simp only [VsRel] at h; subst h; simp [VsRel]
  | b :: as, vs, i, _, _, h, k => by
    cases vs with
    | nil => simp [VsRel] at h
    | cons u vs =>
      simp only [VsRel] at h
      cases i with
      | zero => exact ⟨k, h.2⟩
      | succ i => exact ⟨h.1, VsRel.set i h.2 k⟩

theorem VsRel.splice {E : Env} {φ : Phi} {w : World} {as bs : List AVal} {vs us : List Value} (off n : Nat) (h : VsRel E φ w as vs) (k : VsRel E φ w bs us) :
    VsRel E φ w (splice as off n bs) (vs.take off ++ us ++ vs.drop (off + n)) :=
  ((h.take off).append k).append (h.drop _)

theorem VsRel.replicate {E : Env} {φ : Phi} {w : World} {a : AVal} {v : Value} (h : VRel E φ w a v) (n : Nat) : VsRel E φ w (List.replicate n a) (List.replicate n v) := by
  induction n with
  | zero => simp [VsRel]
  | succ n ih => simp only [List.replicate_succ, VsRel]; exact ⟨h, ih⟩

theorem cells_of_one {v : Value} (h : oneC v = true) : v.cells = #[v] := by
  cases v <;> simp_all [oneC, Value.cells]

/-- What is no struct, tuple or junk is one cell. -/
def AVal.single : AVal → Bool
  | .agg _ | .tuple _ | .junk => false
  | _ => true

theorem VRel.one {E : Env} {φ : Phi} {w : World} {a : AVal} {v : Value} (h : VRel E φ w a v) (hs : a.single = true) : oneC v = true := by
  cases a with
  | junk => simp [AVal.single] at hs
  | agg l => simp [AVal.single] at hs
  | tuple l => simp [AVal.single] at hs
  | bool b => simp only [VRel] at h; subst h; rfl
  | int k n => simp only [VRel] at h; subst h; rfl
  | str s => simp only [VRel] at h; obtain ⟨b, rfl, hb⟩ := h; rfl
  | nilPtr => simp only [VRel] at h; subst h; rfl
  | ptr id off => simp only [VRel] at h; exact h.1
  | eptr id gen i off => simp only [VRel] at h; exact h.1
  | iptr cs => simp only [VRel] at h; obtain ⟨b, o, vs, rfl, _⟩ := h; rfl
  | nilSlice => simp only [VRel] at h; subst h; rfl
  | slice id gen off len => simp only [VRel] at h; exact h.1
  | islice sz es => simp only [VRel] at h; obtain ⟨a, cap, rfl, _⟩ := h; rfl
  | nilMap => simp only [VRel] at h; subst h; rfl
  | map id => simp only [VRel] at h; exact h.1
  | func f first caps => simp only [VRel] at h; obtain ⟨rf, a, b, _, rfl, _⟩ := h; rfl
  | nilFunc => simp only [VRel] at h; subst h; rfl
  | yld id => simp only [VRel] at h; exact h.1
  | nilIface => simp only [VRel] at h; subst h; rfl
  | opq x => simp only [VRel] at h; obtain ⟨rfl, h⟩ := h; exact h

/-- The cells of a value that surely has as many. -/
theorem VRel.sure {E : Env} {φ : Phi} {w : World} {a : AVal} {v : Value} {cs : List AVal} (h : VRel E φ w a v) (hs : a.sure = some cs) :
    VsRel E φ w cs v.cells.toList ∧ ∀ x ∈ v.cells.toList, oneC x = true := by
  by_cases h1 : a.single = true
  · have e : cs = [a] := by
      cases a <;> simp_all [AVal.sure, AVal.single]
    subst e
    have ho := h.one h1
    rw [cells_of_one ho]
    exact ⟨⟨h, rfl⟩, by simpa using ho⟩
  · cases a with
    | agg l =>
      simp only [AVal.sure, Option.some.injEq] at hs; subst hs
      simp only [VRel] at h
      obtain ⟨vs, rfl, h1, h2⟩ := h
      exact ⟨h1, h2⟩
    | junk => simp [AVal.sure] at hs
    | tuple l => simp [AVal.sure] at hs
    | _ => simp [AVal.single] at h1

/-- An element's cells, as far as they are told. -/
theorem VRel.cells {E : Env} {φ : Phi} {w : World} {a : AVal} {v : Value} (h : VRel E φ w a v) (hp : 0 < v.cells.size) :
    ∃ us, v.cells.toList = us ++ v.cells.toList.drop a.cells.length ∧ VsRel E φ w a.cells us := by
  by_cases h1 : a.single = true
  · have ho := h.one h1
    have e : a.cells = [a] := by cases a <;> simp_all [AVal.cells, AVal.single]
    rw [e, cells_of_one ho]
    exact ⟨[v], by simp, ⟨h, rfl⟩⟩
  · cases a with
    | agg l =>
      simp only [VRel] at h
      obtain ⟨vs, rfl, h1, h2⟩ := h
      have := h1.length
      refine ⟨vs.toList, ?_, h1⟩
      simp [Value.cells, AVal.cells, this]
    | junk =>
      obtain ⟨c, hc⟩ : ∃ c, v.cells.toList[0]? = some c := ⟨_, List.getElem?_eq_getElem (by simpa using hp)⟩
      refine ⟨[c], ?_, by simp [VsRel, VRel, AVal.cells]⟩
      cases hl : v.cells.toList with
      | nil => rw [hl] at hc; simp at hc
      | cons x xs => rw [hl] at hc; simp at hc; subst hc; simp [AVal.cells]
    | tuple l =>
      simp only [VRel] at h
      obtain ⟨vs, rfl, h1⟩ := h
      exact ⟨[.tuple vs], by simp [Value.cells, AVal.cells], by simp only [AVal.cells, VsRel, VRel]; exact ⟨⟨vs, rfl, h1⟩, trivial⟩⟩
    | _ => simp [AVal.single] at h1

end Go.Rv

namespace Go.Rv

mutual
theorem absV_rel {E : Env} {φ : Phi} {w : World} : ∀ {v : Value} {a : AVal}, absV v = some a → VRel E φ w a v
  | .bool b, a, h => by simp only [absV, Option.some.injEq] at h; subst h; simp [VRel]
  | .int k n, a, h => by simp only [absV, Option.some.injEq] at h; subst h; simp [VRel]
  | .float .., a, h => by simp [absV] at h
  | .complex .., a, h => by simp [absV] at h
  | .string s, a, h => by simp only [absV, Option.some.injEq] at h; subst h; exact ⟨s, rfl, rfl⟩
  | .pointer none, a, h => by simp only [absV, Option.some.injEq] at h; subst h; simp [VRel]
  | .pointer (some _), a, h => by simp [absV] at h
  | .slice none 0 0, a, h => by simp only [absV, Option.some.injEq] at h; subst h; simp [VRel]
  | .slice none 0 (n + 1), a, h => by simp [absV] at h
  | .slice none (n + 1) m, a, h => by simp [absV] at h
  | .slice (some _) n m, a, h => by simp [absV] at h
  | .map none, a, h => by simp only [absV, Option.some.injEq] at h; subst h; simp [VRel]
  | .map (some _), a, h => by simp [absV] at h
  | .chan _, a, h => by simp [absV] at h
  | .func .., a, h => by simp [absV] at h
  | .nilFunc, a, h => by simp only [absV, Option.some.injEq] at h; subst h; simp [VRel]
  | .iface .., a, h => by simp [absV] at h
  | .nilIface, a, h => by simp only [absV, Option.some.injEq] at h; subst h; simp [VRel]
  | .agg ⟨cs⟩, a, h => by
    simp only [absV] at h
    split at h
    · rename_i l hl
      simp only [Option.some.injEq] at h; subst h
      have := absVs_rel (E := E) (φ := φ) (w := w) hl
      exact ⟨⟨cs⟩, rfl, this.1, this.2⟩
    · cases h
  | .tuple _, a, h => by simp [absV] at h
theorem absVs_rel {E : Env} {φ : Phi} {w : World} : ∀ {vs : List Value} {as : List AVal}, absVs vs = some as → VsRel E φ w as vs ∧ ∀ x ∈ vs, oneC x = true
  | [], as, h => by simp only [absVs, Option.some.injEq] at h; subst h; simp [VsRel]
  | v :: vs, as, h => by
    simp only [absVs] at h
    split at h
    · rename_i h1
      split at h
      · rename_i a ha
        split at h
        · rename_i l hl
          simp only [Option.some.injEq] at h; subst h
          have h2 := absV_rel (E := E) (φ := φ) (w := w) ha
          have h3 := absVs_rel (E := E) (φ := φ) (w := w) hl
          refine ⟨⟨h2, h3.1⟩, ?_⟩
          intro x hx
          rcases List.mem_cons.1 hx with e | hx
          · rw [e]; exact h1
          · exact h3.2 x hx
        · cases h
      · cases h
    · cases h
end

/-- The temporaries stand for one another. -/
def TRel (E : Env) (φ : Phi) (w : World) (T : List AVal) (ρ : Operand → Value) (N : Num) : Prop :=
  ∀ x a, cOpd N x = some a → VRel E φ w (ev T a) (ρ x)

theorem Num.fn_idx {N : Num} {f : FuncId} {c : Nat} (h : N.fn f = some c) : N.idx c = some f := by
  simp only [Num.fn] at h
  split at h
  · split at h
    · simp only [Option.some.injEq] at h; subst h; assumption
    · cases h
  · cases h

theorem TRel.of {N : Num} {φ : Phi} {w : World} {T : List AVal} {a : Act} (h : VsRel N.env φ w T a.tmps.toList) : TRel N.env φ w T a.eval N := by
  intro x y hx
  cases x with
  | tmp t =>
    simp only [cOpd, Option.some.injEq] at hx; subst hx
    simp only [ev, Act.eval]
    rcases Nat.lt_or_ge t T.length with ht | ht
    · obtain ⟨v, hv, hr⟩ := h.get (i := t) (a := T[t]) (List.getElem?_eq_getElem ht)
      have e1 : T.getD t undefA = T[t] := by simp [List.getD, List.getElem?_eq_getElem ht]
      have e2 : a.tmps.getD t undef = v := by
        have : a.tmps[t]? = some v := by simpa using hv
        simp [Array.getD_eq_getD_getElem?, this]
      rw [e1, e2]; exact hr
    · have e1 : T.getD t undefA = undefA := by simp [List.getD, List.getElem?_eq_none ht]
      have e2 : a.tmps.getD t undef = undef := by
        have := h.length
        have : a.tmps[t]? = none := Array.getElem?_eq_none (by simpa using (by omega : a.tmps.toList.length ≤ t))
        simp [Array.getD_eq_getD_getElem?, this]
      rw [e1, e2]
      exact ⟨#[], rfl, by simp [VsRel]⟩
  | const v =>
    simp only [cOpd] at hx
    split at hx
    · simp only [Option.some.injEq] at hx; subst hx
      exact absV_rel (by assumption)
    · cases hx
  | global g => simp [cOpd] at hx
  | func f =>
    simp only [cOpd] at hx
    split at hx
    · rename_i c hc
      simp only [Option.some.injEq] at hx; subst hx
      exact ⟨f, #[], #[], Num.fn_idx hc, rfl, by simp [VsRel], by simp [VsRel]⟩
    · cases hx

theorem TRel.list {N : Num} {E : Env} {φ : Phi} {w : World} {T : List AVal} {ρ : Operand → Value} (h : TRel E φ w T ρ N) : ∀ {xs : List Operand} {as : List Opd}, cOpds N xs = some as →
    VsRel E φ w (as.map (ev T)) (xs.map ρ)
  | [], as, hx => by simp only [cOpds, Option.some.injEq] at hx; subst hx; simp [VsRel]
  | x :: xs, as, hx => by
    simp only [cOpds] at hx
    split at hx
    · rename_i a l ha hl
      simp only [Option.some.injEq] at hx; subst hx
      exact ⟨h x a ha, TRel.list h hl⟩
    · cases hx

/-- What an operation turns, by the objects' numbers. -/
def Eff.upd (e : Eff) (nxt : Nat) (h : Nat → AObj) : Nat → AObj :=
  match e with
  | .none => h
  | .alloc o => updH h nxt o
  | .set id o => updH h id o

/-- THE MODEL's RUN OF AN OPERATION COMES TO v AND TURNS e. -/
def Does (E : Env) (φ : Phi) (w : World) (h : Nat → AObj) (nxt : Nat) (s : Sem Next) (v : AVal) (e : Eff) : Prop :=
  ∃ w' φ' x, (s.run E.P w = .ok (.value x) w' ∨ (s.run E.P w = .ok .skip w' ∧ x = undef)) ∧ VRel E φ' w' v x ∧ HRel E φ' w' (e.upd nxt h) ∧ Ext φ w φ' w'

/-- Nothing is turned. -/
theorem Does.calm {E : Env} {φ : Phi} {w : World} {h : Nat → AObj} {nxt : Nat} {s : Sem Next} {v : AVal} {x : Value} (H : HRel E φ w h)
    (hr : s.run E.P w = .ok (.value x) w) (hv : VRel E φ w v x) : Does E φ w h nxt s v .none :=
  ⟨w, φ, x, .inl hr, hv, H, Ext.refl _ _⟩

/-! ### Reading -/

theorem reads_list {w : World} {b o : Nat} {vs : List Value} {i n : Nat} {us : List Value} (h : Reads w b o vs) (hu : (vs.drop i).take n = us) :
    ∀ j v, us[j]? = some v → w.cell? (({ block := b, off := o + i, spot := none } : Addr).add j) = some v := by
  intro j v hj
  subst hu
  have hjn : j < n := by
    rcases Nat.lt_or_ge j n with h' | h'
    · exact h'
    · rw [List.getElem?_eq_none (by simp; omega)] at hj; cases hj
  rw [List.getElem?_take_of_lt hjn, List.getElem?_drop] at hj
  have := h _ _ hj
  by_cases h0 : j = 0
  · subst h0; simpa [Addr.add] using this
  · simp only [Addr.add, h0, if_false]
    rw [show o + i + j = o + (i + j) by omega]; exact this

theorem reads_block {w : World} {b : Nat} {arr : Array Value} {el : TypeId} {fr : Nat × Nat} (h : w.heap[b]? = some (.cells arr el fr)) : Reads w b 0 arr.toList := by
  intro i v hi
  simp only [World.cell?, h]
  simpa using hi

theorem reads_drop {w : World} {b o : Nat} {vs : List Value} (h : Reads w b o vs) (n : Nat) : Reads w b (o + n) (vs.drop n) := by
  intro i v hi
  rw [List.getElem?_drop] at hi
  rw [Nat.add_assoc]
  exact h _ _ hi

theorem reads_prefix {w : World} {b o : Nat} {vs us : List Value} (h : Reads w b o (vs ++ us)) : Reads w b o vs := by
  intro i v hi
  exact h i v (by rw [List.getElem?_append_left]; exact hi; exact (List.getElem?_eq_some_iff.1 hi).1)

theorem isAggT_run {P : Program} {t : TypeId} {g : Bool} (h : isAggT P t = some g) (w : World) : (isAgg t).run P w = .ok g w := by
  simp only [isAggT] at h
  cases hu : P.underlying t with
  | none => rw [hu] at h; cases h
  | some d =>
    rw [hu] at h
    cases d <;> simp_all [isAgg, run_underlying hu] <;> (first | subst h | skip) <;> rfl

theorem sizeT_run {P : Program} {t : TypeId} {n : Nat} (h : sizeT P t = some n) (w : World) : (sizeOf t).run P w = .ok n w := by
  simp only [sizeT, Option.map_eq_some_iff] at h
  obtain ⟨i, hi, rfl⟩ := h
  simp [sizeOf, typeInfo, program, Sem.run, hi]

theorem loadVar_run {P : Program} {E : Env} {φ : Phi} {w : World} {t : TypeId} {g : Bool} {n off : Nat} {cs : List AVal} {a : AVal} {b o : Nat} {vs : List Value}
    (hg : isAggT P t = some g) (hn : sizeT P t = some n) (hr : Reads w b o vs) (hv : VsRel E φ w cs vs) (h1 : ∀ x ∈ vs, oneC x = true) (h : readAt g n off cs = some a) :
    ∃ x, (loadVar t ⟨b, o + off, none⟩).run P w = .ok x w ∧ VRel E φ w a x := by
  cases g with
  | true =>
    simp only [readAt] at h
    split at h
    · rename_i hd
      simp only [Option.some.injEq] at h; subst h
      have hle : off + n ≤ vs.length := by have := hv.length; simp at hd; omega
      have hlen : ((vs.drop off).take n).length = n := by simp; omega
      have hl := run_loadCells_list (P := P) (w := w) ⟨b, o + off, none⟩ ((vs.drop off).take n) (reads_list hr rfl)
      rw [hlen] at hl
      refine ⟨.agg ((vs.drop off).take n).toArray, ?_, ?_⟩
      · simp [loadVar, isAggT_run hg, sizeT_run hn, hl]
      · refine ⟨_, rfl, by simpa using (hv.drop off).take n, ?_⟩
        intro x hx
        exact h1 x (List.mem_of_mem_drop (List.mem_of_mem_take (by simpa using hx)))
    · cases h
  | false =>
    simp only [readAt] at h
    obtain ⟨x, hx, hxr⟩ := hv.get h
    refine ⟨x, ?_, hxr⟩
    have hc := hr off x hx
    simp [loadVar, isAggT_run hg, hc]

end Go.Rv

namespace Go.Rv

theorem run_val {P : Program} {s : Sem Value} {w w' : World} {x : Value} (h : s.run P w = .ok x w') : (do pure (Next.value (← s)) : Sem Next).run P w = .ok (.value x) w' := by
  simp [h]
theorem run_unit {P : Program} {s : Sem Unit} {w w' : World} (h : s.run P w = .ok () w') : (do s; pure Next.skip : Sem Next).run P w = .ok .skip w' := by
  simp [h]

theorem get_some {H : AHeap} {id : Nat} {o : AObj} (h : H[id]? = some o) : get H id = o := by simp [get, List.getD, h]

/-- A live object of cells. -/
theorem HRel.cellsAt {E : Env} {φ : Phi} {w : World} {h : Nat → AObj} (H : HRel E φ w h) {id : Nat} {cs : List AVal} (hc : h id = .cells cs) :
    ∃ l arr el fr, φ id = .live l ∧ l.gen = 0 ∧ w.heap[l.blk]? = some (.cells arr el fr) ∧ VsRel E φ w cs arr.toList ∧ (∀ x ∈ arr.toList, oneC x = true) ∧ unfrozen arr.size fr := by
  have := H.1 id
  rw [hc] at this
  exact this
theorem HRel.rowAt {E : Env} {φ : Phi} {w : World} {h : Nat → AObj} (H : HRel E φ w h) {id sz gen : Nat} {es : List AVal} (hc : h id = .row sz gen es) :
    ∃ l arr el fr vs post, φ id = .live l ∧ l.sz = sz ∧ l.gen = gen ∧ w.heap[l.blk]? = some (.cells arr el fr) ∧
      arr.toList.drop l.base = vs ++ post ∧ ElsRel E φ w sz es vs ∧ l.base + l.top * sz ≤ arr.size ∧ es.length ≤ l.top ∧ unfrozen arr.size fr := by
  have := H.1 id
  rw [hc] at this
  exact this
theorem HRel.mapAt {E : Env} {φ : Phi} {w : World} {h : Nat → AObj} (H : HRel E φ w h) {id : Nat} {es : List (AVal × AVal)} (hc : h id = .map es) :
    ∃ l ents clk, φ id = .live l ∧ l.gen = 0 ∧ w.heap[l.blk]? = some (.map ents clk) ∧ EntsRel E φ w es ents.toList ∧
      (∀ m ∈ ents.toList, m.born < clk) ∧ (ents.toList.map (·.born)).Pairwise (· < ·) := by
  have := H.1 id
  rw [hc] at this
  exact this

theorem ElsRel.vslen {E : Env} {φ : Phi} {w : World} {sz : Nat} : ∀ {es : List AVal} {vs : List Value}, ElsRel E φ w sz es vs → vs.length = es.length * sz
  | [], vs, h => by simp only [ElsRel] at h; subst h; simp
  | e :: es, vs, h => by
    simp only [ElsRel] at h
    obtain ⟨x, rest, _, rfl, hs, _, hr⟩ := h
    have := ElsRel.vslen hr
    simp [this, hs.1, Nat.add_mul]; omega

theorem ElsRel.one {E : Env} {φ : Phi} {w : World} {sz : Nat} : ∀ {es : List AVal} {vs : List Value}, ElsRel E φ w sz es vs → ∀ x ∈ vs, oneC x = true
  | [], vs, h => by simp only [ElsRel] at h; subst h; simp
  | e :: es, vs, h => by
    simp only [ElsRel] at h
    obtain ⟨x, rest, _, rfl, hs, h1, hr⟩ := h
    intro y hy
    rcases List.mem_append.1 hy with hy | hy
    · exact h1 y hy
    · exact ElsRel.one hr y hy

/-- The i-th element: what lies before it, it itself, what lies behind. -/
theorem ElsRel.split {E : Env} {φ : Phi} {w : World} {sz : Nat} : ∀ {es : List AVal} {vs : List Value}, ElsRel E φ w sz es vs → ∀ {i : Nat} {e : AVal}, es[i]? = some e →
    ∃ pre x post, vs = pre ++ x.cells.toList ++ post ∧ pre.length = i * sz ∧ (x.cells.size = sz ∧ 0 < sz) ∧ (∀ y ∈ x.cells.toList, oneC y = true) ∧ VRel E φ w e x ∧
      ElsRel E φ w sz (es.take i) pre ∧ ElsRel E φ w sz (es.drop (i + 1)) post
  | [], _, _, i, e, h => by simp at h
  | b :: es, vs, h, i, e, hi => by
    simp only [ElsRel] at h
    obtain ⟨x, rest, hx, rfl, hs, h1, hr⟩ := h
    cases i with
    | zero =>
      simp at hi; subst hi
      exact ⟨[], x, rest, by simp, by simp, hs, h1, hx, by simp [ElsRel], by simpa using hr⟩
    | succ i =>
      obtain ⟨pre, y, post, rfl, hp, hy, hy1, hyr, h3, h4⟩ := ElsRel.split hr (i := i) (by simpa using hi)
      refine ⟨x.cells.toList ++ pre, y, post, by simp, ?_, hy, hy1, hyr, ?_, by simpa using h4⟩
      · simp [hp, hs.1, Nat.add_mul]; omega
      · simp only [List.take_succ_cons, ElsRel]
        exact ⟨x, pre, hx, rfl, hs, h1, h3⟩

theorem ElsRel.append {E : Env} {φ : Phi} {w : World} {sz : Nat} : ∀ {es : List AVal} {vs : List Value} {fs : List AVal} {us : List Value}, ElsRel E φ w sz es vs → ElsRel E φ w sz fs us →
    ElsRel E φ w sz (es ++ fs) (vs ++ us)
  | [], vs, _, _, h, k => by simp only [ElsRel] at h; subst h; exact k
  | e :: es, vs, _, _, h, k => by
    simp only [ElsRel] at h
    obtain ⟨x, rest, hx, rfl, hs, h1, hr⟩ := h
    simp only [List.cons_append, ElsRel, List.append_assoc]
    exact ⟨x, _, hx, rfl, hs, h1, ElsRel.append hr k⟩

theorem ElsRel.take {E : Env} {φ : Phi} {w : World} {sz : Nat} : ∀ {es : List AVal} {vs : List Value} (n : Nat), ElsRel E φ w sz es vs → ElsRel E φ w sz (es.take n) (vs.take (n * sz))
  | [], vs, n, h => by simp only [ElsRel] at h; subst h; simp [ElsRel]
  | e :: es, vs, n, h => by
    simp only [ElsRel] at h
    obtain ⟨x, rest, hx, rfl, hs, h1, hr⟩ := h
    cases n with
    | zero => simp [ElsRel]
    | succ n =>
      simp only [List.take_succ_cons, ElsRel]
      refine ⟨x, rest.take (n * sz), hx, ?_, hs, h1, ElsRel.take n hr⟩
      rw [List.take_append]
      have : x.cells.toList.length = sz := by simpa using hs.1
      rw [this, List.take_of_length_le (by rw [this, Nat.add_mul]; omega), Nat.add_mul, Nat.one_mul, Nat.add_sub_cancel]

theorem ElsRel.drop {E : Env} {φ : Phi} {w : World} {sz : Nat} : ∀ {es : List AVal} {vs : List Value} (n : Nat), ElsRel E φ w sz es vs → ElsRel E φ w sz (es.drop n) (vs.drop (n * sz))
  | [], vs, n, h => by simp only [ElsRel] at h; subst h; simp [ElsRel]
  | e :: es, vs, n, h => by
    simp only [ElsRel] at h
    have h' := h
    obtain ⟨x, rest, hx, rfl, hs, h1, hr⟩ := h
    cases n with
    | zero => simpa [ElsRel] using h'
    | succ n =>
      simp only [List.drop_succ_cons]
      have : x.cells.toList.length = sz := by simpa using hs.1
      have e1 : (x.cells.toList ++ rest).drop ((n + 1) * sz) = rest.drop (n * sz) := by
        rw [List.drop_append, this, List.drop_of_length_le (by rw [this, Nat.add_mul]; omega), Nat.add_mul, Nat.one_mul, Nat.add_sub_cancel, List.nil_append]
      rw [e1]
      exact ElsRel.drop n hr

/-- A pointer's reading, whatever it points into. -/
theorem load_does {N : Num} {φ : Phi} {w : World} {T : List AVal} {Hp : AHeap} {nxt : Nat} {wr : IntKind → Int → Int} {t : TypeId} {x : Value} {g : Bool} {n : Nat} {a : Opd} {v : AVal} {e : Eff}
    (hg : isAggT N.P t = some g) (hn : sizeT N.P t = some n) (hx : VRel N.env φ w (ev T a) x) (H : HRel N.env φ w (get Hp)) (h : aop wr nxt (.load g n a) T Hp = some (v, e)) :
    Does N.env φ w (get Hp) nxt (do pure (.value (← Instr.loadAt t x))) v e := by
  simp only [aop] at h
  split at h
  · rename_i id off he
    rw [he] at hx
    split at h
    · rename_i cs hc
      split at h
      · rename_i r hr
        simp only [Option.some.injEq, Prod.mk.injEq] at h
        obtain ⟨rfl, rfl⟩ := h
        obtain ⟨l, arr, el, fr, hl, hgen, hb, hvs, h1, _⟩ := H.cellsAt (get_some hc)
        simp only [VRel, hl] at hx
        have hx2 := hx.2 hgen; subst hx2
        obtain ⟨y, hy, hyr⟩ := loadVar_run (P := N.P) hg hn (reads_block hb) hvs h1 hr
        refine Does.calm H ?_ hyr
        have : (Instr.loadAt t (.pointer (some ⟨l.blk, off, none⟩))).run N.P w = .ok y w := by
          simpa [Instr.loadAt, Instr.sureAddr] using hy
        exact run_val this
      · cases h
    · cases h
  · rename_i id gen i off he
    rw [he] at hx
    split at h
    · rename_i sz g' es hc
      split at h
      · rename_i hgg; subst hgg
        split at h
        · rename_i el0 hel
          split at h
          · rename_i r hr
            simp only [Option.some.injEq, Prod.mk.injEq] at h
            obtain ⟨rfl, rfl⟩ := h
            obtain ⟨l, arr, el, fr, vs, post, hl, hsz, hgen, hb, hd, hels, htop, hlen, _⟩ := H.rowAt (get_some hc)
            simp only [VRel, hl] at hx
            have hx2 := hx.2.2 hgen.symm; subst hx2
            obtain ⟨pre, xv, po, rfl, hp, hxs, hx1, hxr, _, _⟩ := hels.split hel
            have hrd : Reads w l.blk (l.base + i * sz) xv.cells.toList := by
              have h2 := reads_drop (reads_block hb) l.base
              rw [hd, Nat.zero_add] at h2
              have h3 := reads_drop h2 (i * sz)
              rw [← hp] at h3 ⊢
              simp only [List.append_assoc, List.drop_left] at h3
              exact reads_prefix h3
            obtain ⟨us, hus, husr⟩ := hxr.cells (by rw [hxs.1]; exact hxs.2)
            rw [hus] at hrd
            have h1' : ∀ y ∈ us, oneC y = true := fun y hy => hx1 y (by rw [hus]; exact List.mem_append.2 (.inl hy))
            obtain ⟨y, hy, hyr⟩ := loadVar_run (P := N.P) hg hn (reads_prefix hrd) husr h1' hr
            refine Does.calm H ?_ hyr
            have : (Instr.loadAt t (.pointer (some ⟨l.blk, l.base + i * l.sz + off, none⟩))).run N.P w = .ok y w := by
              rw [hsz]; simpa [Instr.loadAt, Instr.sureAddr] using hy
            exact run_val this
          · cases h
        · cases h
      · cases h
    · cases h
  · rename_i cs he
    rw [he] at hx
    split at h
    · rename_i r hr
      simp only [Option.some.injEq, Prod.mk.injEq] at h
      obtain ⟨rfl, rfl⟩ := h
      simp only [VRel] at hx
      obtain ⟨b, o, vs, rfl, _, hrd, hvs, h1⟩ := hx
      obtain ⟨y, hy, hyr⟩ := loadVar_run (P := N.P) hg hn hrd hvs h1 hr
      refine Does.calm H ?_ hyr
      have : (Instr.loadAt t (.pointer (some ⟨b, o, none⟩))).run N.P w = .ok y w := by
        simpa [Instr.loadAt, Instr.sureAddr] using hy
      exact run_val this
    · cases h
  · cases h

end Go.Rv

namespace Go.Rv

theorem setCell_setBlk {w : World} {b o : Nat} {v : Value} {arr : Array Value} {el : TypeId} {fr : Nat × Nat} (hb : w.heap[b]? = some (.cells arr el fr)) :
    w.setCell ⟨b, o, none⟩ v = setBlk w b (.cells (arr.setIfInBounds o v) el fr) := by
  have hlt := heap_lt hb
  have h0 : w.heap[b] = .cells arr el fr := by simpa [hlt] using hb
  simp only [World.setCell, setBlk]
  congr 1
  apply Array.ext_getElem?
  intro i
  by_cases hi : b = i
  · subst hi
    rw [Array.getElem?_modify]
    simp [hlt, h0]
  · rw [Array.getElem?_setIfInBounds_ne hi]
    simp [Array.getElem?_modify, hi]

theorem setBlk_setBlk (w : World) (b : Nat) (o o' : Obj) : setBlk (setBlk w b o) b o' = setBlk w b o' := by simp [setBlk]

theorem setBlk_self {w : World} {b : Nat} {o : Obj} (h : w.heap[b]? = some o) : setBlk w b o = w := by
  have hlt := heap_lt h
  have h0 : w.heap[b] = o := by simpa [hlt] using h
  have : w.heap.setIfInBounds b o = w.heap := by
    apply Array.ext_getElem?
    intro i
    by_cases hi : b = i
    · subst hi; simp [hlt, h0]
    · rw [Array.getElem?_setIfInBounds_ne hi]
  simp only [setBlk, this]

def spliceV (l : List Value) (o : Nat) (vs : List Value) : List Value := l.take o ++ vs ++ l.drop (o + vs.length)

theorem spliceV_length {l : List Value} {o : Nat} {vs : List Value} (h : o + vs.length ≤ l.length) : (spliceV l o vs).length = l.length := by
  simp [spliceV]; omega

theorem spliceV_cons {l : List Value} {o : Nat} {v : Value} {vs : List Value} (h : o + (v :: vs).length ≤ l.length) : spliceV (l.set o v) (o + 1) vs = spliceV l o (v :: vs) := by
  simp only [List.length_cons] at h
  simp only [spliceV, List.length_cons]
  have h1 : (l.set o v).take (o + 1) = l.take o ++ [v] := by
    rw [List.take_succ_eq_append_getElem (by simp; omega)]
    simp [List.take_set_of_le]
  have h2 : (l.set o v).drop (o + 1 + vs.length) = l.drop (o + (vs.length + 1)) := by
    rw [List.drop_set_of_lt (by omega)]; congr 1; omega
  rw [h1, h2]; simp

theorem spliceV_mid (A B C X : List Value) (off : Nat) (h : off + X.length ≤ B.length) : spliceV (A ++ B ++ C) (A.length + off) X = A ++ spliceV B off X ++ C := by
  simp only [spliceV]
  have e2 : (A ++ B ++ C).take (A.length + off) = A ++ B.take off := by
    rw [List.append_assoc, List.take_length_add_append, List.take_append_of_le_length (by omega)]
  have e3 : (A ++ B ++ C).drop (A.length + off + X.length) = B.drop (off + X.length) ++ C := by
    rw [List.append_assoc, Nat.add_assoc, List.drop_length_add_append, List.drop_append_of_le_length (by omega)]
  rw [e2, e3]; simp

theorem spliceV_all (B X : List Value) (h : X.length = B.length) : spliceV B 0 X = X := by
  simp [spliceV, h]

theorem drop_len {A B : List Value} {n : Nat} (h : A.length = n) : (A ++ B).drop n = B := by
  subst h; simp

theorem cell_block {w : World} {b o : Nat} {arr : Array Value} {el : TypeId} {fr : Nat × Nat} (hb : w.heap[b]? = some (.cells arr el fr)) : w.cell? ⟨b, o, none⟩ = arr[o]? := by
  simp [World.cell?, hb]

theorem frozen_block {w : World} {b o : Nat} {arr : Array Value} {el : TypeId} {fr : Nat × Nat} (hb : w.heap[b]? = some (.cells arr el fr)) (hu : unfrozen arr.size fr) (ho : o < arr.size) :
    w.frozen? ⟨b, o, none⟩ = false := by
  have := hu o ho
  simp only [World.frozen?, hb]
  obtain ⟨lo, hi⟩ := fr
  simp only [Bool.and_eq_false_iff, decide_eq_false_iff_not]
  simp at this
  by_cases h : lo ≤ o
  · right; have := this h; omega
  · left; exact h

theorem store_one {P : Program} {w : World} {b o : Nat} {v : Value} {arr : Array Value} {el : TypeId} {fr : Nat × Nat} {k : Sem Unit} (hb : w.heap[b]? = some (.cells arr el fr)) (hu : unfrozen arr.size fr)
    (ho : o < arr.size) (h1 : oneC v = true) : (Sem.store .plain ⟨b, o, none⟩ v k).run P w = k.run P (setBlk w b (.cells (arr.setIfInBounds o v) el fr)) := by
  have hc : w.cell? ⟨b, o, none⟩ = some arr[o] := by rw [cell_block hb]; simp [ho]
  have hf := frozen_block hb hu ho
  rw [← setCell_setBlk hb]
  cases v <;> simp_all [Sem.run, oneC]

theorem add_none (b o i : Nat) : (⟨b, o, none⟩ : Addr).add i = ⟨b, o + i, none⟩ := by
  by_cases h : i = 0
  · subst h; simp [Addr.add]
  · simp [Addr.add, h]

theorem storeCells_run {P : Program} {b o : Nat} {el : TypeId} {fr : Nat × Nat} : ∀ (vs : List Value) (i : Nat) (w : World) (arr : Array Value), w.heap[b]? = some (.cells arr el fr) → unfrozen arr.size fr →
    o + i + vs.length ≤ arr.size → (∀ v ∈ vs, oneC v = true) →
    (storeCells ⟨b, o, none⟩ vs i).run P w = .ok () (setBlk w b (.cells (spliceV arr.toList (o + i) vs).toArray el fr))
  | [], i, w, arr, hb, _, _, _ => by
    have : (spliceV arr.toList (o + i) []).toArray = arr := by simp [spliceV]
    rw [this, setBlk_self hb]
    simp [storeCells, pure]
  | v :: vs, i, w, arr, hb, hu, hle, h1 => by
    simp only [List.length_cons] at hle
    have hlt : b < w.heap.size := heap_lt hb
    simp only [storeCells, store, add_none, Sem.run_bind]
    rw [store_one hb hu (by omega) (h1 v (by simp))]
    have hb' : (setBlk w b (.cells (arr.setIfInBounds (o + i) v) el fr)).heap[b]? = some (.cells (arr.setIfInBounds (o + i) v) el fr) := setBlk_same hlt
    have hr := storeCells_run (P := P) (o := o) vs (i + 1) _ _ hb' (by simpa using hu) (by simp; omega) (fun x hx => h1 x (by simp [hx]))
    simp only [Sem.run, Result.andThen]
    rw [hr, setBlk_setBlk, Array.toList_setIfInBounds, ← Nat.add_assoc, spliceV_cons (by simp; omega)]

theorem VsRel.spliceV {E : Env} {φ : Phi} {w : World} {as bs : List AVal} {vs us : List Value} {off n : Nat} (h : VsRel E φ w as vs) (k : VsRel E φ w bs us) (hn : us.length = n) :
    VsRel E φ w (Rv.splice as off n bs) (Rv.spliceV vs off us) := by
  subst hn; exact VsRel.splice off _ h k

theorem mem_spliceV {l vs : List Value} {o : Nat} {x : Value} (h : x ∈ spliceV l o vs) : x ∈ l ∨ x ∈ vs := by
  simp only [Rv.spliceV, List.mem_append] at h
  rcases h with (h | h) | h
  · exact .inl (List.mem_of_mem_take h)
  · exact .inr h
  · exact .inl (List.mem_of_mem_drop h)

theorem storeVar_run {P : Program} {w : World} {t : TypeId} {n b o : Nat} {v : Value} {arr : Array Value} {el : TypeId} {fr : Nat × Nat} (hn : sizeT P t = some n) (hs : v.cells.size = n)
    (hb : w.heap[b]? = some (.cells arr el fr)) (hu : unfrozen arr.size fr) (hle : o + n ≤ arr.size) (h1 : ∀ x ∈ v.cells.toList, oneC x = true) :
    (storeVar t ⟨b, o, none⟩ v).run P w = .ok () (setBlk w b (.cells (spliceV arr.toList o v.cells.toList).toArray el fr)) := by
  have := storeCells_run (P := P) (o := o) v.cells.toList 0 w arr hb hu (by simpa [hs] using hle) h1
  rw [Nat.add_zero] at this
  simp [storeVar, sizeT_run hn, hs, this]

theorem store_does {N : Num} {φ : Phi} {w : World} {T : List AVal} {Hp : AHeap} {nxt : Nat} {wr : IntKind → Int → Int} {t : TypeId} {p x : Value} {n : Nat} {a y : Opd} {v : AVal} {e : Eff}
    (hn : sizeT N.P t = some n) (hp : VRel N.env φ w (ev T a) p) (hx : VRel N.env φ w (ev T y) x) (H : HRel N.env φ w (get Hp)) (h : aop wr nxt (.store n a y) T Hp = some (v, e)) :
    Does N.env φ w (get Hp) nxt (do Instr.storeAt t p x; pure .skip) v e := by
  simp only [aop] at h
  split at h
  · rename_i vs hvs
    obtain ⟨hxv, hx1⟩ := hx.sure hvs
    split at h
    · rename_i hlen
      have hsz : x.cells.size = n := by have := hxv.length; simp at this; omega
      split at h
      · rename_i id off he
        rw [he] at hp
        split at h
        · rename_i cs hc
          split at h
          · rename_i hle
            simp only [Option.some.injEq, Prod.mk.injEq] at h
            obtain ⟨rfl, rfl⟩ := h
            obtain ⟨l, arr, el, fr, hl, hgen, hb, hcs, h1, hu⟩ := H.cellsAt (get_some hc)
            simp only [VRel, hl] at hp
            have hp2 := hp.2 hgen; subst hp2
            have hal : cs.length = arr.size := by simpa using hcs.length
            have hrun := storeVar_run (P := N.P) (o := off) hn hsz hb hu (by omega) hx1
            have hlt := heap_lt hb
            obtain ⟨ext, hr⟩ := H.turn hl (Nat.le_refl _) (fun _ => rfl) rfl (.cells (spliceV arr.toList off x.cells.toList).toArray el fr) (by rw [hb]; simp) (o' := .cells (splice cs off n vs)) fun ext => by
              refine ⟨l, _, el, fr, rfl, hgen, setBlk_same hlt, ?_, ?_, ?_⟩
              · simpa using (hcs.spliceV hxv (by simpa using hsz)).mono ext
              · intro y hy
                rcases mem_spliceV (by simpa using hy) with hy | hy
                · exact h1 y hy
                · exact hx1 y hy
              · have : (spliceV arr.toList off x.cells.toList).toArray.size = arr.size := by
                  simp only [List.size_toArray]
                  rw [spliceV_length (by simp [hsz]; omega)]; simp
                rw [this]; exact hu
            refine ⟨_, _, undef, .inr ⟨run_unit (s := Instr.storeAt t (.pointer (some ⟨l.blk, off, none⟩)) x) ?_, rfl⟩, ?_, hr, ext⟩
            · simpa [Instr.storeAt, Instr.sureAddr] using hrun
            · exact ⟨#[], rfl, by simp [VsRel]⟩
          · cases h
        · cases h
      · rename_i id gen i off he
        rw [he] at hp
        split at h
        · rename_i sz g es hc
          split at h
          · rename_i hgg; subst hgg
            split at h
            · rename_i e0 he0
              obtain ⟨l, arr, el, fr, rvs, post, hl, hlsz, hgen, hb, hd, hels, htop, hlen2, hu⟩ := H.rowAt (get_some hc)
              simp only [VRel, hl] at hp
              have hp2 := hp.2.2 hgen.symm; subst hp2
              obtain ⟨pre, xv, po, hrvs, hpre, hxs, hxx1, hxr, hel1, hel2⟩ := hels.split he0
              have hlt := heap_lt hb
              have hdl : arr.toList.length = arr.size := by simp
              have hbase : l.base ≤ arr.size := by
                rcases Nat.lt_or_ge arr.size l.base with h' | h'
                · rw [List.drop_of_length_le (by simp; omega)] at hd
                  have := congrArg List.length hd
                  rw [hrvs] at this
                  simp [hxs.1] at this
                  have := hxs.2; omega
                · exact h'
              have hsplit : arr.toList = (arr.toList.take l.base ++ pre) ++ xv.cells.toList ++ (po ++ post) := by
                conv => lhs; rw [← List.take_append_drop l.base arr.toList, hd, hrvs]
                simp
              have hpl : (arr.toList.take l.base ++ pre).length = l.base + i * sz := by simp [hpre]; omega
              have htot : arr.size = l.base + i * sz + sz + (po ++ post).length := by
                have := congrArg List.length hsplit
                simp only [hdl, List.length_append] at this
                simp only [List.length_append] at hpl
                simp [hxs.1] at this
                simp; omega
              -- the new cells of the element, and what it stands for
              have key : ∀ (xv' : Value) (e' : AVal), Rv.spliceV arr.toList (l.base + i * sz + off) x.cells.toList = (arr.toList.take l.base ++ pre) ++ xv'.cells.toList ++ (po ++ post) →
                  xv'.cells.size = sz → (∀ y ∈ xv'.cells.toList, oneC y = true) → (∀ φ' w', Ext φ w φ' w' → VRel N.env φ' w' e' xv') → l.base + i * sz + off + n ≤ arr.size →
                  Does N.env φ w (get Hp) nxt (do Instr.storeAt t (.pointer (some ⟨l.blk, l.base + i * l.sz + off, none⟩)) x; pure .skip) undefA (.set id (.row sz g (es.set i e'))) := by
                intro xv' e' hsp hs' h1' hv' hle'
                have hrun := storeVar_run (P := N.P) hn hsz hb hu hle' hx1
                obtain ⟨ext, hr⟩ := H.turn hl (Nat.le_refl _) (fun _ => rfl) rfl (.cells (spliceV arr.toList (l.base + i * sz + off) x.cells.toList).toArray el fr) (by rw [hb]; simp) (o' := .row sz g (es.set i e')) fun ext => by
                  refine ⟨l, _, el, fr, pre ++ xv'.cells.toList ++ po, post, rfl, hlsz, hgen, setBlk_same hlt, ?_, ?_, ?_, by simpa using hlen2, ?_⟩
                  · rw [hsp]
                    show List.drop l.base (arr.toList.take l.base ++ pre ++ xv'.cells.toList ++ (po ++ post)) = _
                    rw [show arr.toList.take l.base ++ pre ++ xv'.cells.toList ++ (po ++ post) = arr.toList.take l.base ++ (pre ++ xv'.cells.toList ++ po ++ post) by simp]
                    exact drop_len (by simp; omega)
                  · have hi : i < es.length := (List.getElem?_eq_some_iff.1 he0).1
                    have e1 : es.set i e' = es.take i ++ e' :: es.drop (i + 1) := by
                      rw [List.set_eq_take_append_cons_drop, if_pos hi]
                    rw [e1, List.append_assoc]
                    refine ElsRel.append (hel1.mono ext) ?_
                    simp only [ElsRel]
                    exact ⟨xv', po, hv' _ _ ext, rfl, ⟨hs', hxs.2⟩, h1', hel2.mono ext⟩
                  · have : (spliceV arr.toList (l.base + i * sz + off) x.cells.toList).toArray.size = arr.size := by
                      simp only [List.size_toArray]
                      rw [spliceV_length (by simp [hsz]; omega)]; simp
                    rw [this]; exact htop
                  · have : (spliceV arr.toList (l.base + i * sz + off) x.cells.toList).toArray.size = arr.size := by
                      simp only [List.size_toArray]
                      rw [spliceV_length (by simp [hsz]; omega)]; simp
                    rw [this]; exact hu
                refine ⟨_, _, undef, .inr ⟨run_unit (s := Instr.storeAt t (.pointer (some ⟨l.blk, l.base + i * l.sz + off, none⟩)) x) ?_, rfl⟩, ?_, hr, ext⟩
                · rw [hlsz]; simpa [Instr.storeAt, Instr.sureAddr] using hrun
                · exact ⟨#[], rfl, by simp [VsRel]⟩
              split at h
              · rename_i hns
                simp only [decide_eq_true_eq] at hns
                split at h
                · rename_i h0; subst h0
                  simp only [Option.some.injEq, Prod.mk.injEq] at h
                  obtain ⟨rfl, rfl⟩ := h
                  refine key x (ev T y) ?_ (by omega) hx1 (fun φ' w' ext => hx.mono ext) (by omega)
                  have hxl : x.cells.toList.length = xv.cells.toList.length := by simp [hsz, hxs.1, hns]
                  conv => lhs; rw [hsplit, ← hpl]
                  rw [spliceV_mid _ _ _ _ 0 (by omega), spliceV_all _ _ hxl]
                · cases h
              · split at h
                · rename_i hle
                  simp only [Option.some.injEq, Prod.mk.injEq] at h
                  obtain ⟨rfl, rfl⟩ := h
                  obtain ⟨us, hus, husr⟩ := hxr.cells (by rw [hxs.1]; exact hxs.2)
                  have hul : us.length = sz := by have := husr.length; omega
                  have hus2 : xv.cells.toList = us := by
                    rw [hus, List.drop_of_length_le (by simp [hxs.1]; omega)]; simp
                  refine key (.agg (spliceV us off x.cells.toList).toArray) _ ?_ ?_ ?_ ?_ (by omega)
                  · have hxl : x.cells.toList.length = n := by simpa using hsz
                    show _ = _ ++ spliceV us off x.cells.toList ++ _
                    conv => lhs; rw [hsplit, hus2, ← hpl]
                    rw [spliceV_mid _ _ _ _ off (by omega)]
                  · have hxl : x.cells.toList.length = n := by simpa using hsz
                    show (spliceV us off x.cells.toList).toArray.size = sz
                    rw [List.size_toArray, spliceV_length (by omega)]; exact hul
                  · intro z hz
                    rcases mem_spliceV (by simpa [Value.cells] using hz) with hz | hz
                    · exact hxx1 z (by rw [hus2]; exact hz)
                    · exact hx1 z hz
                  · intro φ' w' ext
                    refine ⟨_, rfl, by simpa using (husr.spliceV hxv (by simpa using hsz)).mono ext, ?_⟩
                    intro z hz
                    rcases mem_spliceV (by simpa using hz) with hz | hz
                    · exact hxx1 z (by rw [hus2]; exact hz)
                    · exact hx1 z hz
                · cases h
            · cases h
          · cases h
        · cases h
      · cases h
    · cases h
  · cases h

end Go.Rv

namespace Go.Rv

theorem zeroT_run {P : Program} {t : TypeId} {a : AVal} (h : zeroT P t = some a) (w : World) : ∃ z, (zeroValue t).run P w = .ok z w ∧ absV z = some a := by
  simp only [zeroT] at h
  split at h
  · rename_i i hi
    split at h
    · rename_i z hz
      exact ⟨z, by simp [zeroValue, typeInfo, program, Sem.run, hi, hz], h⟩
    · cases h
  · cases h

theorem bytesT_info {P : Program} {t : TypeId} {n : Nat} (h : bytesT P t = some n) : ∃ i, P.info? t = some i ∧ i.bytes = n := by
  simpa [bytesT, Option.map_eq_some_iff] using h

theorem alloc_new (w : World) (o : Obj) : (w.alloc o).heap[w.heap.size]? = some o := by
  show (w.heap.push o)[w.heap.size]? = some o
  simp
theorem newVar_run (P : Program) (w : World) (t : TypeId) (v : Value) : (newVar t v).run P w = .ok ⟨w.heap.size, 0, none⟩ (w.alloc (.cells v.cells t)) := rfl
theorem newRow_run (P : Program) (w : World) (t : TypeId) (c : Array Value) : (newRow t c).run P w = .ok ⟨w.heap.size, 0, none⟩ (w.alloc (.cells c t)) := rfl

/-- A new object of cells. -/
theorem new_cells {E : Env} {φ : Phi} {w : World} {h : Nat → AObj} {nxt : Nat} (H : HRel E φ w h) (hn : h nxt = .un) {cs : List AVal} {arr : Array Value} (el : TypeId)
    (hv : VsRel E φ w cs arr.toList) (h1 : ∀ x ∈ arr.toList, oneC x = true) :
    ∃ φ', Ext φ w φ' (w.alloc (.cells arr el)) ∧ HRel E φ' (w.alloc (.cells arr el)) (updH h nxt (.cells cs)) ∧
      VRel E φ' (w.alloc (.cells arr el)) (.ptr nxt 0) (.pointer (some ⟨w.heap.size, 0, none⟩)) := by
  have hun : φ nxt = .un := by have := H.1 nxt; rw [hn] at this; exact this
  obtain ⟨ext, hr⟩ := H.alloc hun (.cells arr el) (l' := { blk := w.heap.size, base := 0, top := 0, sz := 0, gen := 0 }) rfl (o' := .cells cs) fun ext =>
    ⟨_, arr, el, (0, 0), rfl, rfl, alloc_new _ _, hv.mono ext, h1, by intro i _; simp⟩
  refine ⟨_, ext, hr, ?_⟩
  simp [VRel, oneC]

/-- A new row. -/
theorem new_row {E : Env} {φ : Phi} {w : World} {h : Nat → AObj} {nxt sz : Nat} (H : HRel E φ w h) (hn : h nxt = .un) {es : List AVal} {vs post : List Value} (el : TypeId) {cap : Nat}
    (hv : ElsRel E φ w sz es vs) (h1 : ∀ x ∈ post, oneC x = true) (hc : cap * sz = vs.length + post.length) (hle : es.length ≤ cap) :
    ∃ φ', Ext φ w φ' (w.alloc (.cells (vs ++ post).toArray el)) ∧ HRel E φ' (w.alloc (.cells (vs ++ post).toArray el)) (updH h nxt (.row sz 0 es)) ∧
      VRel E φ' (w.alloc (.cells (vs ++ post).toArray el)) (.slice nxt 0 0 es.length) (.slice (some ⟨w.heap.size, 0, none⟩) es.length cap) := by
  have hun : φ nxt = .un := by have := H.1 nxt; rw [hn] at this; exact this
  obtain ⟨ext, hr⟩ := H.alloc hun (.cells (vs ++ post).toArray el) (l' := { blk := w.heap.size, base := 0, top := cap, sz := sz, gen := 0 }) rfl (o' := .row sz 0 es) fun ext =>
    ⟨_, (vs ++ post).toArray, el, (0, 0), vs, post, rfl, rfl, rfl, alloc_new _ _, by simp, hv.mono ext, by simp; omega, hle, by intro i _; simp⟩
  refine ⟨_, ext, hr, ?_⟩
  simp only [VRel, updP_same]
  exact ⟨rfl, Nat.le_refl _, fun _ => ⟨_, cap, rfl, hle, by omega, .inr (by simp)⟩⟩

theorem alloc_does {N : Num} {φ : Phi} {w : World} {T : List AVal} {Hp : AHeap} {nxt : Nat} {wr : IntKind → Int → Int} {t : TypeId} {z : AVal} {cs : List AVal} {v : AVal} {e : Eff}
    (hz : zeroT N.P t = some z) (hs : z.sure = some cs) (hn : get Hp nxt = .un) (H : HRel N.env φ w (get Hp)) (h : aop wr nxt (.alloc cs) T Hp = some (v, e)) :
    Does N.env φ w (get Hp) nxt (do pure (.value (← Instr.alloc t true (.tuple #[])))) v e := by
  simp only [aop, Option.some.injEq, Prod.mk.injEq] at h
  obtain ⟨rfl, rfl⟩ := h
  obtain ⟨x, hx, ha⟩ := zeroT_run hz w
  obtain ⟨hv, h1⟩ := (absV_rel (E := N.env) (φ := φ) (w := w) ha).sure hs
  obtain ⟨φ', ext, hr, hp⟩ := new_cells H hn t hv h1
  refine ⟨_, φ', _, .inl (run_val (s := Instr.alloc t true (.tuple #[])) ?_), hp, hr, ext⟩
  simp [Instr.alloc, hx, newVar_run]

theorem box_does {N : Num} {φ : Phi} {w : World} {T : List AVal} {Hp : AHeap} {nxt : Nat} {wr : IntKind → Int → Int} {t : TypeId} {x : Value} {a : Opd} {v : AVal} {e : Eff}
    (hx : VRel N.env φ w (ev T a) x) (hn : get Hp nxt = .un) (H : HRel N.env φ w (get Hp)) (h : aop wr nxt (.box a) T Hp = some (v, e)) :
    Does N.env φ w (get Hp) nxt (do pure (.value (← Instr.box t x))) v e := by
  simp only [aop] at h
  split at h
  · rename_i cs hs
    simp only [Option.some.injEq, Prod.mk.injEq] at h
    obtain ⟨rfl, rfl⟩ := h
    obtain ⟨hv, h1⟩ := hx.sure hs
    obtain ⟨φ', ext, hr, hp⟩ := new_cells H hn t hv h1
    refine ⟨_, φ', _, .inl (run_val (s := Instr.box t x) ?_), hp, hr, ext⟩
    simp [Instr.box, newVar_run]
  · cases h

/-- A struct's parts laid into its cells. -/
theorem fill_rel {E : Env} {φ : Phi} {w : World} {T : List AVal} {ρ : Operand → Value} {N : Num} (hT : TRel E φ w T ρ N) {place : Nat → Option (Nat × Nat)} :
    ∀ {parts : List (Nat × Operand)} {cp : List (Nat × Nat × Opd)} {cs out : List AVal} {vs : Array Value}, cPlaces N place parts = some cp →
    fillA cs (cp.map fun p => (p.1, p.2.1, ev T p.2.2)) = some out → VsRel E φ w cs vs.toList → (∀ x ∈ vs.toList, oneC x = true) →
    ∃ us : Array Value, Instr.fill place vs (parts.map fun p => (p.1, ρ p.2)) = some us ∧ VsRel E φ w out us.toList ∧ ∀ x ∈ us.toList, oneC x = true
  | [], cp, cs, out, vs, hc, hf, hv, h1 => by
    simp only [cPlaces, Option.some.injEq] at hc; subst hc
    simp only [List.map_nil, fillA, Option.some.injEq] at hf; subst hf
    exact ⟨vs, rfl, hv, h1⟩
  | (i, x) :: parts, cp, cs, out, vs, hc, hf, hv, h1 => by
    simp only [cPlaces] at hc
    split at hc
    · rename_i off n a l hpl ha hl
      simp only [Option.some.injEq] at hc; subst hc
      simp only [List.map_cons, fillA] at hf
      split at hf
      · rename_i ws hws
        split at hf
        · rename_i hlen
          obtain ⟨hxv, hx1⟩ := (hT x a ha).sure hws
          have hsz : (ρ x).cells.size = n := by have := hxv.length; simp at this; omega
          have hlv := hv.length
          have hle : off + n ≤ vs.size := by simp at hlv; omega
          have hset : ∀ (us : List Value) (arr : Array Value) (k : Nat), off + k + us.length ≤ arr.size →
              ((us.zipIdx k).foldl (fun cs p => cs.setIfInBounds (off + p.2) p.1) arr).toList = spliceV arr.toList (off + k) us := by
            intro us
            induction us with
            | nil => intro arr k _; simp [spliceV]
            | cons u us ih =>
              intro arr k hk
              simp only [List.length_cons] at hk
              simp only [List.zipIdx_cons, List.foldl_cons]
              rw [ih _ (k + 1) (by simp; omega), Array.toList_setIfInBounds, ← Nat.add_assoc, spliceV_cons (by simp; omega)]
          have hset0 := hset (ρ x).cells.toList vs 0 (by simp [hsz]; omega)
          have hfold : ((ρ x).cells.zipIdx.foldl (fun cs p => cs.setIfInBounds (off + p.2) p.1) vs).toList = spliceV vs.toList off (ρ x).cells.toList := by
            rw [← Array.foldl_toList, Array.toList_zipIdx]; simpa using hset0
          obtain ⟨us, hus, husv, hus1⟩ := fill_rel hT (vs := (ρ x).cells.zipIdx.foldl (fun cs p => cs.setIfInBounds (off + p.2) p.1) vs) hl hf
            (by rw [hfold]; exact hv.spliceV hxv (by simpa using hsz))
            (by
              intro y hy
              rw [hfold] at hy
              rcases mem_spliceV hy with hy | hy
              · exact h1 y hy
              · exact hx1 y hy)
          refine ⟨us, ?_, husv, hus1⟩
          simp only [List.map_cons, Instr.fill, hpl]
          rw [if_neg (by simp [hsz]; omega)]
          exact hus
        · cases hf
      · cases hf
    · cases hc

theorem mapM_sizes {P : Program} {w : World} : ∀ (fs : List Field), (∀ f ∈ fs, (sizeT P f.type).isSome = true) →
    (fs.mapM fun f => Prod.mk f.offset <$> sizeOf f.type : Sem (List (Nat × Nat))).run P w = .ok (fs.map fun f => (f.offset, (sizeT P f.type).getD 0)) w
  | [], _ => by simp [pure]
  | f :: fs, h => by
    have h1 := h f (by simp)
    obtain ⟨n, hn⟩ := Option.isSome_iff_exists.1 h1
    have ih := mapM_sizes (P := P) (w := w) fs (fun g hg => h g (by simp [hg]))
    simp only [map_eq_pure_bind] at ih ⊢
    simp only [List.mapM_cons, Sem.run_bind, sizeT_run hn, Result.andThen]
    simp only [pure, hn, List.map_cons, Option.getD_some] at ih ⊢
    have e : ∀ (x : Nat × Nat), (Sem.pure x).run P w = .ok x w := fun _ => rfl
    rw [e]
    dsimp only
    rw [ih]
    rfl

theorem build_does {N : Num} {φ : Phi} {w : World} {T : List AVal} {Hp : AHeap} {nxt : Nat} {wr : IntKind → Int → Int} {t : TypeId} {ρ : Operand → Value} {z : AVal} {cs : List AVal} {fs : Array Field}
    {parts : Array (Nat × Operand)} {cp : List (Nat × Nat × Opd)} {v : AVal} {e : Eff} (hT : TRel N.env φ w T ρ N) (hu : N.P.underlying t = some (.struct fs))
    (hz : zeroT N.P t = some z) (hs : z.sure = some cs) (hf : fs.all (fun f => (sizeT N.P f.type).isSome) = true) (hp : cPlaces N (fieldPlaces N.P fs) parts.toList = some cp)
    (H : HRel N.env φ w (get Hp)) (h : aop wr nxt (.build cs cp) T Hp = some (v, e)) :
    Does N.env φ w (get Hp) nxt (do pure (.value (← Instr.build t (parts.map fun p => (p.1, ρ p.2))))) v e := by
  simp only [aop] at h
  split at h
  · rename_i out ho
    simp only [Option.some.injEq, Prod.mk.injEq] at h
    obtain ⟨rfl, rfl⟩ := h
    obtain ⟨x, hx, ha⟩ := zeroT_run hz w
    obtain ⟨hv, h1⟩ := (absV_rel (E := N.env) (φ := φ) (w := w) ha).sure hs
    obtain ⟨us, hus, husv, hus1⟩ := fill_rel hT hp ho hv h1
    have hm := mapM_sizes (P := N.P) (w := w) fs.toList (by
      intro f hf'
      obtain ⟨i, hi, rfl⟩ := List.mem_iff_getElem.1 hf'
      exact (Array.all_eq_true.1 hf) i (by simpa using hi))
    have hm2 : (fs.mapM fun f => Prod.mk f.offset <$> sizeOf f.type : Sem (Array (Nat × Nat))).run N.P w = .ok (fs.map fun f => (f.offset, (sizeT N.P f.type).getD 0)) w := by
      rw [Array.mapM_eq_mapM_toList]
      simp only [map_eq_pure_bind, Sem.run_bind] at hm ⊢
      rw [hm]
      simp [Result.andThen, pure, Array.ext_iff]
    have hpl : (fun i => (fs.map fun f => (f.offset, (sizeT N.P f.type).getD 0))[i]?) = fieldPlaces N.P fs := by
      funext i
      simp only [fieldPlaces, Array.getElem?_map]
      cases hfi : fs[i]? with
      | none => rfl
      | some f =>
        have : (sizeT N.P f.type).isSome = true := by
          have hlt := (Array.getElem?_eq_some_iff.1 hfi)
          obtain ⟨hlt, rfl⟩ := hlt
          exact (Array.all_eq_true.1 hf) i hlt
        obtain ⟨n, hn⟩ := Option.isSome_iff_exists.1 this
        simp [hn]
    refine Does.calm H (run_val (s := Instr.build t (parts.map fun p => (p.1, ρ p.2))) (x := .agg us) ?_) ⟨us, rfl, husv, hus1⟩
    have hus' : Instr.fill (fun i => (fs.map fun f => (f.offset, (sizeT N.P f.type).getD 0))[i]?) x.cells (parts.map fun p => (p.1, ρ p.2)).toList = some us := by
      rw [hpl]; simpa using hus
    simp only [Array.getElem?_map, Array.toList_map] at hus'
    simp [Instr.build, hx, run_underlying hu, hm2, hus']
  · cases h

theorem buildArr_does {N : Num} {φ : Phi} {w : World} {T : List AVal} {Hp : AHeap} {nxt : Nat} {wr : IntKind → Int → Int} {t el : TypeId} {k : Nat} {ρ : Operand → Value} {z : AVal} {cs : List AVal} {sz : Nat}
    {parts : Array (Nat × Operand)} {cp : List (Nat × Nat × Opd)} {v : AVal} {e : Eff} (hT : TRel N.env φ w T ρ N) (hu : N.P.underlying t = some (.array k el))
    (hz : zeroT N.P t = some z) (hs : z.sure = some cs) (hsz : sizeT N.P el = some sz) (hp : cPlaces N (fun i => some (i * sz, sz)) parts.toList = some cp)
    (H : HRel N.env φ w (get Hp)) (h : aop wr nxt (.build cs cp) T Hp = some (v, e)) :
    Does N.env φ w (get Hp) nxt (do pure (.value (← Instr.build t (parts.map fun p => (p.1, ρ p.2))))) v e := by
  simp only [aop] at h
  split at h
  · rename_i out ho
    simp only [Option.some.injEq, Prod.mk.injEq] at h
    obtain ⟨rfl, rfl⟩ := h
    obtain ⟨x, hx, ha⟩ := zeroT_run hz w
    obtain ⟨hv, h1⟩ := (absV_rel (E := N.env) (φ := φ) (w := w) ha).sure hs
    obtain ⟨us, hus, husv, hus1⟩ := fill_rel hT hp ho hv h1
    refine Does.calm H (run_val (s := Instr.build t (parts.map fun p => (p.1, ρ p.2))) (x := .agg us) ?_) ⟨us, rfl, husv, hus1⟩
    simp [Instr.build, hx, run_underlying hu, sizeT_run hsz, hus]
  · cases h

end Go.Rv

namespace Go.Rv

section live
variable {E : Env} {φ : Phi} {w : World} {Hp : AHeap} (H : HRel E φ w (get Hp))
include H
theorem liveC_at {id : Nat} (h : liveC Hp id = true) : ∃ l, φ id = .live l ∧ l.gen = 0 := by
  simp only [liveC] at h
  split at h
  · rename_i cs hc
    obtain ⟨l, _, _, _, h1, h2, _⟩ := H.cellsAt (get_some hc)
    exact ⟨l, h1, h2⟩
  · cases h
theorem liveR_at {id gen sz : Nat} (h : liveR Hp id gen sz = true) : ∃ l, φ id = .live l ∧ l.gen = gen ∧ l.sz = sz := by
  simp only [liveR] at h
  split at h
  · rename_i s g es hc
    simp only [decide_eq_true_eq] at h
    obtain ⟨rfl, rfl⟩ := h
    obtain ⟨l, _, _, _, _, _, h1, h2, h3, _⟩ := H.rowAt (get_some hc)
    exact ⟨l, h1, h3, h2⟩
  · cases h
theorem liveG_at {id gen : Nat} (h : liveG Hp id gen = true) : ∃ l, φ id = .live l ∧ l.gen = gen := by
  simp only [liveG] at h
  split at h
  · rename_i s g es hc
    simp only [decide_eq_true_eq] at h
    subst h
    obtain ⟨l, _, _, _, _, _, h1, h2, h3, _⟩ := H.rowAt (get_some hc)
    exact ⟨l, h1, h3⟩
  · cases h
theorem liveM_at {id : Nat} (h : liveM Hp id = true) : ∃ l, φ id = .live l ∧ l.gen = 0 := by
  simp only [liveM] at h
  split at h
  · rename_i es hc
    obtain ⟨l, _, _, h1, h2, _⟩ := H.mapAt (get_some hc)
    exact ⟨l, h1, h2⟩
  · cases h
end live

theorem ptr_form {E : Env} {φ : Phi} {w : World} {id off : Nat} {v : Value} {l : Loc} (h : VRel E φ w (.ptr id off) v) (hl : φ id = .live l) (hg : l.gen = 0) : v = .pointer (some ⟨l.blk, off, none⟩) := by
  simp only [VRel, hl] at h; exact h.2 hg
theorem eptr_form {E : Env} {φ : Phi} {w : World} {id gen i off : Nat} {v : Value} {l : Loc} (h : VRel E φ w (.eptr id gen i off) v) (hl : φ id = .live l) (hg : l.gen = gen) :
    v = .pointer (some ⟨l.blk, l.base + i * l.sz + off, none⟩) := by
  simp only [VRel, hl] at h; exact h.2.2 hg.symm
theorem slice_form {E : Env} {φ : Phi} {w : World} {id gen off len : Nat} {v : Value} {l : Loc} (h : VRel E φ w (.slice id gen off len) v) (hl : φ id = .live l) (hg : l.gen = gen) :
    ∃ a cap, v = .slice (some a) len cap ∧ len ≤ cap ∧ off + cap ≤ l.top ∧ (cap = 0 ∨ a = ⟨l.blk, l.base + off * l.sz, none⟩) := by
  simp only [VRel, hl] at h; exact h.2.2 hg.symm
theorem map_form {E : Env} {φ : Phi} {w : World} {id : Nat} {v : Value} {l : Loc} (h : VRel E φ w (.map id) v) (hl : φ id = .live l) (hg : l.gen = 0) : v = .map (some l.blk) := by
  simp only [VRel, hl] at h; exact h.2 hg

theorem nilCheck_does {N : Num} {φ : Phi} {w : World} {T : List AVal} {Hp : AHeap} {nxt : Nat} {wr : IntKind → Int → Int} {ρ : Operand → Value} {o : Oper} {x : Operand} {a : Opd} {v : AVal} {e : Eff}
    (ho : o.op = .nilCheck x) (hx : VRel N.env φ w (ev T a) (ρ x)) (H : HRel N.env φ w (get Hp)) (h : aop wr nxt (.nilCheck a) T Hp = some (v, e)) :
    Does N.env φ w (get Hp) nxt (execOp ρ o) v e := by
  simp only [aop] at h
  split at h
  · rename_i id off he
    rw [he] at hx
    cases hc : liveC Hp id with
    | false => simp [hc] at h
    | true =>
      simp only [hc, cond_true, Option.some.injEq, Prod.mk.injEq] at h
      obtain ⟨rfl, rfl⟩ := h
      obtain ⟨l, hl, hg⟩ := liveC_at H hc
      have := ptr_form hx hl hg
      refine Does.calm H (x := ρ x) ?_ hx
      simp [execOp, ho, this]
  · rename_i id gen i off he
    rw [he] at hx
    cases hc : liveG Hp id gen with
    | false => simp [hc] at h
    | true =>
      simp only [hc, cond_true, Option.some.injEq, Prod.mk.injEq] at h
      obtain ⟨rfl, rfl⟩ := h
      obtain ⟨l, hl, hg⟩ := liveG_at H hc
      have := eptr_form hx hl hg
      refine Does.calm H (x := ρ x) ?_ hx
      simp [execOp, ho, this]
  · rename_i cs he
    rw [he] at hx
    simp only [Option.some.injEq, Prod.mk.injEq] at h
    obtain ⟨rfl, rfl⟩ := h
    have hx' := hx
    simp only [VRel] at hx'
    obtain ⟨b, o', vs, hv, _⟩ := hx'
    refine Does.calm H (x := ρ x) ?_ hx
    simp [execOp, ho, hv]
  · rename_i f p q he
    rw [he] at hx
    simp only [Option.some.injEq, Prod.mk.injEq] at h
    obtain ⟨rfl, rfl⟩ := h
    have hx' := hx
    simp only [VRel] at hx'
    obtain ⟨rf, p', q', _, hv, _⟩ := hx'
    refine Does.calm H (x := ρ x) ?_ hx
    simp [execOp, ho, hv]
  · cases h

theorem eqGuard_one {P : Program} {w : World} {op : BinOp} {t : TypeId} {x y : Operand} {a b : Value} (h : ∀ c, ¬ (a = .agg c ∧ ∃ d, b = .agg d)) (h2 : ¬ (a = .nilIface ∧ b = .nilIface)) :
    (eqGuard op t x y a b).run P w = .ok () w := by
  have key : ∀ (q : Sem Unit), q.run P w = .ok () w → (match a, b with
      | .nilIface, .nilIface => q
      | .agg _, .agg _ => q
      | _, _ => (pure () : Sem Unit)).run P w = .ok () w := by
    intro q hq
    split <;> first | exact hq | rfl
  unfold eqGuard
  cases op <;> first | rfl | skip
  all_goals
    show Sem.run P (match a, b with | .nilIface, .nilIface => _ | .agg _, .agg _ => _ | _, _ => _) w = _
    split
    · exact absurd ⟨rfl, rfl⟩ h2
    · exact absurd ⟨rfl, _, rfl⟩ (h _)
    · rfl

theorem ibits_run {P : Program} {w : World} {op : BinOp} {k : IntKind} {a b r : Int} (h : ibits IntKind.wrap op k a b = some r) : (Op.intBits op k a b).run P w = .ok (.int k r) w := by
  cases op <;> simp [ibits] at h <;> subst h <;> simp [Op.intBits, pure, Sem.run]

theorem intOp_run {P : Program} {w : World} {op : BinOp} {k : IntKind} {a b : Int} {v : AVal} {t : TypeId} (h : intOp IntKind.wrap op k a b = some v) (hop : op ≠ .shl ∧ op ≠ .shr) {E : Env} {φ : Phi} :
    ∃ x, (Go.binOp op t (.int k a) (.int k b)).run P w = .ok x w ∧ VRel E φ w v x := by
  cases op with
  | shl => exact absurd rfl hop.1
  | shr => exact absurd rfl hop.2
  | quo =>
    simp only [intOp] at h
    split at h
    · cases h
    · rename_i hb
      simp only [Option.some.injEq] at h; subst h
      exact ⟨_, by simp [Go.binOp, Op.intDiv, hb, pure, Sem.run], rfl⟩
  | rem =>
    simp only [intOp] at h
    split at h
    · cases h
    · rename_i hb
      simp only [Option.some.injEq] at h; subst h
      exact ⟨_, by simp [Go.binOp, Op.intDiv, hb, pure, Sem.run], rfl⟩
  | and =>
    simp only [intOp, Option.map_eq_some_iff] at h
    obtain ⟨r, hr, rfl⟩ := h
    exact ⟨_, by simp only [Go.binOp]; simpa using ibits_run hr, rfl⟩
  | or =>
    simp only [intOp, Option.map_eq_some_iff] at h
    obtain ⟨r, hr, rfl⟩ := h
    exact ⟨_, by simp only [Go.binOp]; simpa using ibits_run hr, rfl⟩
  | xor =>
    simp only [intOp, Option.map_eq_some_iff] at h
    obtain ⟨r, hr, rfl⟩ := h
    exact ⟨_, by simp only [Go.binOp]; simpa using ibits_run hr, rfl⟩
  | andNot =>
    simp only [intOp, Option.map_eq_some_iff] at h
    obtain ⟨r, hr, rfl⟩ := h
    exact ⟨_, by simp only [Go.binOp]; simpa using ibits_run hr, rfl⟩
  | _ =>
    simp only [intOp, Option.some.injEq] at h; subst h
    exact ⟨_, by simp [Go.binOp, Op.intArith, Op.intCmp, pure, Sem.run], rfl⟩

theorem bytesLess_lessB : ∀ (x y : List UInt8), Op.bytesLess x y = lessB (x.map UInt8.toNat) (y.map UInt8.toNat)
  | x, [] => by cases x <;> simp [Op.bytesLess, lessB]
  | [], _ :: _ => by simp [Op.bytesLess, lessB]
  | a :: x, b :: y => by
    simp only [Op.bytesLess, List.map_cons, lessB, bytesLess_lessB x y]
    congr 1
    · congr 1
      by_cases h : a = b
      · subst h; simp
      · have : a.toNat ≠ b.toNat := fun e => h (UInt8.toNat_inj.1 e)
        rw [beq_eq_false_iff_ne.2 h, beq_eq_false_iff_ne.2 this]

theorem map_toNat_beq (x y : List UInt8) : (x == y) = (x.map UInt8.toNat == y.map UInt8.toNat) := by
  by_cases h : x = y
  · subst h; simp
  · have : x.map UInt8.toNat ≠ y.map UInt8.toNat := by
      intro e
      have h2 := congrArg (List.map UInt8.ofNat) e
      simp only [List.map_map] at h2
      have h3 : UInt8.ofNat ∘ UInt8.toNat = id := by funext c; simp
      rw [h3] at h2
      exact h (by simpa using h2)
    rw [beq_eq_false_iff_ne.2 h, beq_eq_false_iff_ne.2 this]

theorem strOp_run {P : Program} {w : World} {op : BinOp} {a b : ByteArray} {v : AVal} {t : TypeId} (h : strOp op (a.data.toList.map UInt8.toNat) (b.data.toList.map UInt8.toNat) = some v) {E : Env} {φ : Phi} :
    ∃ x, (Go.binOp op t (.string a) (.string b)).run P w = .ok x w ∧ VRel E φ w v x := by
  have e1 : (a.toList == b.toList) = (a.data.toList.map UInt8.toNat == b.data.toList.map UInt8.toNat) := by
    rw [ByteArray.toList_eq, ByteArray.toList_eq, map_toNat_beq]
  have e2 : Op.bytesLess a.toList b.toList = lessB (a.data.toList.map UInt8.toNat) (b.data.toList.map UInt8.toNat) := by
    rw [ByteArray.toList_eq, ByteArray.toList_eq, bytesLess_lessB]
  cases op with
  | add =>
    simp only [strOp] at h
    split at h
    · rename_i hle
      simp only [Option.some.injEq] at h; subst h
      have hsz : ¬ ((a.size : Int) + (b.size : Int) > IntKind.i64.max) := by
        have h1 : a.size = a.data.toList.length := by simp
        have h2 : b.size = b.data.toList.length := by simp
        simp only [List.length_map] at hle
        rw [h1, h2]
        simp [IntKind.max, IntKind.signed, IntKind.bits]
        omega
      refine ⟨.string (a ++ b), ?_, ⟨_, rfl, ?_⟩⟩
      · simp only [Go.binOp, Op.stringOp]
        rw [if_neg (by simpa using hsz)]; rfl
      · simp
    · cases h
  | eql => simp only [strOp, Option.some.injEq] at h; subst h; exact ⟨_, by simp [Go.binOp, Op.stringOp, pure, Sem.run]; rfl, by simp only [VRel]; rw [← e1]⟩
  | neq => simp only [strOp, Option.some.injEq] at h; subst h; exact ⟨_, by simp [Go.binOp, Op.stringOp, pure, Sem.run]; rfl, by simp only [VRel]; rw [← e1]⟩
  | lss => simp only [strOp, Option.some.injEq] at h; subst h; exact ⟨_, by simp [Go.binOp, Op.stringOp, pure, Sem.run]; rfl, by simp only [VRel]; rw [← e2]⟩
  | leq => simp only [strOp, Option.some.injEq] at h; subst h; exact ⟨_, by simp [Go.binOp, Op.stringOp, pure, Sem.run]; rfl, by simp only [VRel]; rw [← e2, ← e1]⟩
  | gtr => simp only [strOp, Option.some.injEq] at h; subst h; exact ⟨_, by simp [Go.binOp, Op.stringOp, pure, Sem.run]; rfl, by simp only [VRel]; rw [← e2, ← e1]; simp⟩
  | geq => simp only [strOp, Option.some.injEq] at h; subst h; exact ⟨_, by simp [Go.binOp, Op.stringOp, pure, Sem.run]; rfl, by simp only [VRel]; rw [← e2]⟩
  | _ => simp [strOp] at h

theorem bin_does {N : Num} {φ : Phi} {w : World} {T : List AVal} {Hp : AHeap} {nxt : Nat} {x y : Operand} {op : BinOp} {t u : TypeId} {ρ : Operand → Value} {o : Oper} {a b : Opd} {v : AVal} {e : Eff}
    (ho : o.op = .binOp op t x y u) (hx : VRel N.env φ w (ev T a) (ρ x)) (hy : VRel N.env φ w (ev T b) (ρ y)) (H : HRel N.env φ w (get Hp))
    (h : aop IntKind.wrap nxt (.bin op a b) T Hp = some (v, e)) : Does N.env φ w (get Hp) nxt (execOp ρ o) v e := by
  simp only [aop] at h
  split at h
  · rename_i r hr
    simp only [Option.some.injEq, Prod.mk.injEq] at h
    obtain ⟨rfl, rfl⟩ := h
    have key : ∀ z, (Go.binOp op t (ρ x) (ρ y)).run N.P w = .ok z w → VRel N.env φ w r z → (∀ c, ¬ (ρ x = .agg c ∧ ∃ d, ρ y = .agg d)) → ¬ (ρ x = .nilIface ∧ ρ y = .nilIface) →
        Does N.env φ w (get Hp) nxt (execOp ρ o) r .none := by
      intro z hz hv h1 h2
      refine Does.calm H (x := z) ?_ hv
      have hg := eqGuard_one (P := N.P) (w := w) (op := op) (t := t) (x := x) (y := y) h1 h2
      simp [execOp, ho, hg, hz]
    simp only [Rv.binOp] at hr
    split at hr
    · rename_i k p k' q e1 e2
      rw [e1] at hx; rw [e2] at hy
      simp only [VRel] at hx hy
      have h1 : ∀ c, ¬ (ρ x = .agg c ∧ ∃ d, ρ y = .agg d) := by rw [hx]; simp
      have h2 : ¬ (ρ x = .nilIface ∧ ρ y = .nilIface) := by rw [hx]; simp
      split at hr
      · split at hr
        · cases hr
        · rename_i hq
          simp only [Option.some.injEq] at hr; subst hr
          refine key (.int k (k.wrap (p * 2 ^ (min q.toNat k.bits)))) ?_ rfl h1 h2
          rw [hx, hy]
          simp [Go.binOp, Op.shift, hq, pure, Sem.run]
      · split at hr
        · cases hr
        · rename_i hq
          simp only [Option.some.injEq] at hr; subst hr
          refine key (.int k (p.fdiv (2 ^ (min q.toNat k.bits)))) ?_ rfl h1 h2
          rw [hx, hy]
          simp [Go.binOp, Op.shift, hq, pure, Sem.run]
      · rename_i n1 n2
        split at hr
        · rename_i hk; subst hk
          obtain ⟨z, hz, hzr⟩ := intOp_run (P := N.P) (w := w) (t := t) (E := N.env) (φ := φ) hr ⟨n1, n2⟩
          refine key z ?_ hzr h1 h2
          rw [hx, hy]; exact hz
        · cases hr
    · rename_i p q e1 e2
      rw [e1] at hx; rw [e2] at hy
      simp only [VRel] at hx hy
      obtain ⟨ba, hx, rfl⟩ := hx
      obtain ⟨bb, hy, rfl⟩ := hy
      obtain ⟨z, hz, hzr⟩ := strOp_run (P := N.P) (w := w) (t := t) (E := N.env) (φ := φ) hr
      refine key z ?_ hzr ?_ ?_
      · rw [hx, hy]; exact hz
      · rw [hx]; simp
      · rw [hx]; simp
    · cases hr
  · cases h

end Go.Rv
