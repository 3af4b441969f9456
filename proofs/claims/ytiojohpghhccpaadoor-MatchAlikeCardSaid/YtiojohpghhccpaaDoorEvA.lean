/-
  A deterministic evaluator of the model's code over values that are trees: definitions.
  Slices that nobody writes to any more are lists of cells; what is still written lies in numbered blocks of the evaluator's own.
-/
import Derived.Calls
import Derived.Orders
import Derived.Laws.Cells
import Derived.Laws.CopyRow
import Derived.Laws.Entries
import Derived.Laws.MakeOwn
import Derived.Laws.StructEq
import Derived.Laws.Concat
import Derived.Laws.Slices
import Derived.Laws.RangeString
import Derived.Lib.Strings
import Derived.ChangeKeysEq
import Derived.Laws.BytesString
set_option linter.all false
namespace Go.Pe

/-- Values of the evaluator. -/
inductive V where
  /-- nothing is known of it -/
  | any
  | bool (b : Bool)
  | int (k : IntKind) (n : Int)
  | str (s : List UInt8)
  | agg (cs : List V)
  | tup (vs : List V)
  | nilp
  /-- a place in block i, while that block has e cells -/
  | pb (i e off : Nat)
  /-- a place in cells that stay -/
  | pt (cells : List V) (off : Nat)
  /-- the nil slice -/
  | sn
  /-- a slice of n elements that stay; full: without spare room -/
  | st (full : Bool) (n : Nat) (cells : List V)
  /-- a slice of n elements of sz cells of block i, while that block has e cells -/
  | so (i e off n sz : Nat)
  | mn
  | mp (i : Nat)
  | fn (f : Nat) (cap : List V)
  | fnil
  | iface (t : Nat) (v : V)
  | inil
  deriving Inhabited

/-- Blocks of the evaluator. -/
inductive Blk where
  | cells (cs : List V)
  | map (es : List (V × V))
  | iter (s : List UInt8) (pos : Nat)
  /-- kept free for an operation of a region -/
  | vac
  deriving Inhabited

structure St where
  mem : List Blk
  lo : Nat
  deriving Inhabited

/-- What is to be known of a type. -/
inductive TD where
  | bool | int (k : IntKind) | str
  | ptr (e : Nat) | slice (e : Nat) | array (n e : Nat) | map (k e : Nat)
  /-- of each field: type, offset; its name is the blank one -/
  | struct (fs : List (Nat × Nat × Bool))
  | func
  | iface (methods : Bool)
  | other
  deriving DecidableEq, Inhabited

structure TI where
  d : TD
  size : Nat
  bytes : Nat
  zero : List V
  /-- '==' is defined -/
  comp : Bool
  /-- it holds an interface with methods -/
  guard : Bool
  deriving Inhabited

structure Dt where
  P : Program
  T : Nat → Option TI
  G : Nat → Option (List V)

/-- The element type of a slice type, and what is to be known of it. -/
def Dt.sl (D : Dt) (t : Nat) : Option (Nat × TI) :=
  match D.T t with
  | some ti => match ti.d with
    | .slice e => match D.T e with
      | some te => some (e, te)
      | none => none
    | _ => none
  | none => none

/-- How many elements an array type has; their type. -/
def Dt.ar (D : Dt) (t : Nat) : Option (Nat × Nat × TI) :=
  match D.T t with
  | some ti => match ti.d with
    | .array n e => match D.T e with
      | some te => some (n, e, te)
      | none => none
    | _ => none
  | none => none

/-- A struct type's field: its type, where it lies. -/
def Dt.fld (D : Dt) (t f : Nat) : Option (Nat × Nat) :=
  match D.T t with
  | some ti => match ti.d with
    | .struct fs => match fs[f]? with
      | some (ft, off, _) => some (ft, off)
      | none => none
    | _ => none
  | none => none

/-- A map type's keys and elements. -/
def Dt.mp (D : Dt) (t : Nat) : Option (Nat × Nat) :=
  match D.T t with
  | some ti => match ti.d with
    | .map k e => some (k, e)
    | _ => none
  | none => none

def Dt.isStr (D : Dt) (t : Nat) : Bool :=
  match D.T t with
  | some ti => match ti.d with
    | .str => true
    | _ => false
  | none => false

abbrev Env := Nat → V

def Env.put (ρ : Env) (d : Option Tmp) (v : V) : Env :=
  match d with
  | some d => fun t => if t = d then v else ρ t
  | none => ρ

/-- A value of the program's text. -/
def ofV : Nat → Value → V
  | _, .bool b => .bool b
  | _, .int k n => .int k n
  | _, .string s => .str s.data.toList
  | _, .pointer none => .nilp
  | _, .slice none 0 0 => .sn
  | _, .map none => .mn
  | _, .nilFunc => .fnil
  | _, .nilIface => .inil
  | n + 1, .agg cs => .agg (cs.toList.map (ofV n))
  | n + 1, .tuple cs => .tup (cs.toList.map (ofV n))
  | _, _ => .any

def Env.ev (D : Dt) (ρ : Env) : Operand → V
  | .tmp t => ρ t
  | .const v => ofV 2 v
  | .global g => match D.G g with | some cs => .pt cs 0 | none => .any
  | .func f => .fn f []

def V.isAny : V → Bool
  | .any => true
  | _ => false

def V.isStr : V → Bool
  | .str _ => true
  | _ => false

def TD.isIface : TD → Bool
  | .iface _ => true
  | _ => false

def V.cells : V → List V
  | .agg cs => cs
  | v => [v]

/-- Of one cell? -/
def V.one : V → Bool
  | .agg _ | .tup _ | .any => false
  | _ => true

mutual
/-- Does it lead to a block of the evaluator's? -/
def V.leads : V → Bool
  | .pb .. | .so .. | .mp _ => true
  | .agg cs | .tup cs | .fn _ cs => V.leadsL cs
  | .iface _ v => v.leads
  | _ => false
def V.leadsL : List V → Bool
  | [] => false
  | v :: vs => v.leads || V.leadsL vs
end

mutual
/-- Does it lead to a block above number i? -/
def V.up (i : Nat) : V → Bool
  | .pb j _ _ | .so j _ _ _ _ | .mp j => i < j
  | .agg cs | .tup cs | .fn _ cs => V.upL i cs
  | .iface _ v => v.up i
  | _ => false
def V.upL (i : Nat) : List V → Bool
  | [] => false
  | v :: vs => v.up i || V.upL i vs
end

/-- n cells from off on, if they are there. -/
def sub (cs : List V) (off n : Nat) : Option (List V) :=
  if off + n ≤ cs.length then some ((cs.drop off).take n) else none

/-- Cells written over others. -/
def over (cs : List V) (off : Nat) (new : List V) : List V := cs.take off ++ new ++ cs.drop (off + new.length)

def St.blk (s : St) (i : Nat) : Option (List V) :=
  match s.mem[i]? with
  | some (.cells cs) => some cs
  | _ => none

/-- The cells of block i, while it has e of them. -/
def St.live (s : St) (i e : Nat) : Option (List V) :=
  match s.mem[i]? with
  | some (.cells cs) => if cs.length = e then some cs else none
  | _ => none

/-- A block is written: what is put in leads nowhere above, or this is kept in mind. -/
def St.put (s : St) (i : Nat) (b : Blk) (new : List V) : St :=
  { mem := s.mem.set i b, lo := if i < s.lo && V.upL i new then i else s.lo }

/-- A new block: behind all others, or at the number that was kept free. -/
def St.new (s : St) (r : Option Nat) (b : Blk) : Option (Nat × St) :=
  match r with
  | none => some (s.mem.length, { s with mem := s.mem ++ [b] })
  | some i => match s.mem[i]? with
    | some .vac => some (i, { s with mem := s.mem.set i b })
    | _ => none

/-- A part of a value's cells. -/
def partT (D : Dt) (t : Nat) (cs : List V) (off : Nat) : Option V :=
  match D.T t with
  | some ti => match ti.d with
    | .struct _ | .array _ _ => (sub cs off ti.size).map .agg
    | _ => cs[off]?
  | none => none

def agg? : TD → Bool
  | .struct _ | .array _ _ => true
  | _ => false

/-- What is read of cells. -/
def readAt (ti : TI) (cs : List V) (off : Nat) : Option V :=
  if agg? ti.d then (sub cs off ti.size).map .agg else cs[off]?

def loadT (D : Dt) (s : St) (t : Nat) : V → Option V
  | .pb i e off => match D.T t with
    | some ti => match s.live i e with
      | some cs => readAt ti cs off
      | none => none
    | none => none
  | .pt cs off => match D.T t with
    | some ti => readAt ti cs off
    | none => none
  | _ => none

def storeT (D : Dt) (s : St) (t : Nat) (p v : V) : Option St :=
  match p, D.T t with
  | .pb i e off, some ti => match s.live i e with
    | some cs =>
      if v.cells.length = ti.size && off + ti.size ≤ cs.length && v.cells.all V.one
      then some (s.put i (.cells (over cs off v.cells)) v.cells) else none
    | none => none
  | _, _ => none

def wrapOp (op : BinOp) (k : IntKind) (a b : Int) : Option V :=
  match op with
  | .add => some (.int k (k.wrap (a + b)))
  | .sub => some (.int k (k.wrap (a - b)))
  | .mul => some (.int k (k.wrap (a * b)))
  | .quo => if b = 0 then none else some (.int k (k.wrap (a.tdiv b)))
  | .rem => if b = 0 then none else some (.int k (a.tmod b))
  | .and => some (.int k (k.wrap ((BitVec.ofInt k.bits a &&& BitVec.ofInt k.bits b).toNat : Int)))
  | .or => some (.int k (k.wrap ((BitVec.ofInt k.bits a ||| BitVec.ofInt k.bits b).toNat : Int)))
  | .xor => some (.int k (k.wrap ((BitVec.ofInt k.bits a ^^^ BitVec.ofInt k.bits b).toNat : Int)))
  | .eql => some (.bool (a == b))
  | .neq => some (.bool (a != b))
  | .lss => some (.bool (decide (a < b)))
  | .leq => some (.bool (decide (a ≤ b)))
  | .gtr => some (.bool (decide (a > b)))
  | .geq => some (.bool (decide (a ≥ b)))
  | _ => none

/-- All parts, one behind the other: the first 'no' ends it. -/
def eqParts (f : Nat → V → V → Option Bool) (D : Dt) (xs ys : List V) : List (Nat × Nat × Bool) → Option Bool
  | [] => some true
  | (t, off, blank) :: rest =>
    if blank then eqParts f D xs ys rest else
    match partT D t xs off, partT D t ys off with
    | some x, some y => match f t x y with
      | some true => eqParts f D xs ys rest
      | r => r
    | _, _ => none

/-- The parts of an array. -/
def elems (e sz : Nat) : (n i : Nat) → List (Nat × Nat × Bool)
  | 0, _ => []
  | n + 1, i => (e, i * sz, false) :: elems e sz n (i + 1)

def eqT (D : Dt) : Nat → Nat → V → V → Option Bool
  | 0, _, _, _ => none
  | d + 1, t, x, y =>
    match D.T t with
    | none => none
    | some ti =>
      match ti.d, x, y with
      | .bool, .bool a, .bool b => some (a == b)
      | .int _, .int k a, .int k' b => if k = k' then some (a == b) else none
      | .str, .str a, .str b => some (a == b)
      | .iface _, .inil, .inil => some true
      | .iface _, .inil, .iface _ _ | .iface _, .iface _ _, .inil => some false
      | .iface _, .iface tx vx, .iface ty vy =>
        if tx = ty then (match D.T tx with
          | some tj => if tj.comp then eqT D d tx vx vy else none
          | none => none) else some false
      | .struct fs, .agg xs, .agg ys => eqParts (eqT D d) D xs ys fs
      | .array n e, .agg xs, .agg ys => match D.T e with
        | some te => eqParts (eqT D d) D xs ys (elems e te.size n 0)
        | none => none
      | .func, .fnil, .fnil => some true
      | .func, .fnil, .fn _ _ | .func, .fn _ _, .fnil => some false
      | _, _, _ => none

/-- Is there no place at which both hold a nil interface value? (Then the model's guard lets '==' by.) -/
def anyParts (f : Nat → V → V → Option Bool) (D : Dt) (xs ys : List V) : List (Nat × Nat × Bool) → Option Bool
  | [] => some false
  | (t, off, blank) :: rest =>
    if blank then anyParts f D xs ys rest else
    match partT D t xs off, partT D t ys off with
    | some x, some y => match f t x y with
      | some false => anyParts f D xs ys rest
      | r => r
    | _, _ => none

def guardT (D : Dt) : Nat → Nat → V → V → Option Bool
  | 0, _, _, _ => none
  | d + 1, t, x, y =>
    match D.T t with
    | none => none
    | some ti =>
      match ti.d, x, y with
      | .iface ms, .inil, .inil => some ms
      | .iface _, .iface _ _, _ => some false
      | .iface _, .inil, .iface _ _ => some false
      | .struct fs, .agg xs, .agg ys => anyParts (guardT D d) D xs ys fs
      | .array n e, .agg xs, .agg ys => match D.T e with
        | some te => anyParts (guardT D d) D xs ys (elems e te.size n 0)
        | none => none
      | _, .int _ _, _ => some false
      | _, .bool _, _ => some false
      | _, .str _, _ => some false
      | _, _, _ => none

def isConstOp : Operand → Bool
  | .const _ => true
  | _ => false

/-- Does the guard ahead of '==' let it by? -/
def guardOk (D : Dt) (t : Nat) (cx cy : Bool) (a b : V) : Bool :=
  match a, b with
  | .inil, .inil => cx || cy || guardT D Op.maxDepth t a b == some false
  | .agg _, .agg _ => match D.T t with
    | some ti => !ti.guard || guardT D Op.maxDepth t a b == some false
    | none => false
  | _, _ => true

def strMax : Nat := 4611686018427387904

def binT (D : Dt) (op : BinOp) (t : Nat) (cx cy : Bool) (x y : V) : Option V :=
  match op, x, y with
  | .shl, .int k a, .int _ b => if b < 0 then none else some (.int k (k.wrap (a * 2 ^ (min b.toNat k.bits))))
  | .shr, .int k a, .int _ b => if b < 0 then none else some (.int k (a.fdiv (2 ^ (min b.toNat k.bits))))
  | _, .int k a, .int k' b => if k = k' then wrapOp op k a b else none
  | .add, .str a, .str b => if a.length + b.length ≤ strMax then some (.str (a ++ b)) else none
  | .eql, .str a, .str b => some (.bool (a == b))
  | .neq, .str a, .str b => some (.bool (!(a == b)))
  | _, .any, _ | _, _, .any => none
  | .eql, x, y => if guardOk D t cx cy x y then (eqT D Op.maxDepth t x y).map .bool else none
  | .neq, x, y => if guardOk D t cx cy x y then (eqT D Op.maxDepth t x y).map (fun b => .bool (!b)) else none
  | _, _, _ => none

def unT (op : UnOp) (x : V) : Option V :=
  match op, x with
  | .neg, .int k n => some (.int k (k.wrap (0 - n)))
  | .not, .bool b => some (.bool (!b))
  | _, _ => none

/-- The cells of a slice's or a string's n first elements, and n. -/
def srcT (s : St) (sz : Nat) : V → Option (Nat × List V)
  | .sn => some (0, [])
  | .st _ n cs => if cs.length = n * sz then some (n, cs) else none
  | .so i e off n z => if z = sz then match s.live i e with
      | some cs => (sub cs off (n * sz)).map fun l => (n, l)
      | none => none
    else none
  | .str b => if sz = 1 then some (b.length, b.map fun c => .int .u8 c.toNat) else none
  | _ => none

def byte? : V → Option UInt8
  | .int .u8 n => some (UInt8.ofNat n.toNat)
  | _ => none

def bytesL : List V → Option (List UInt8)
  | [] => some []
  | v :: vs => match byte? v with
    | some b => match bytesL vs with
      | some bs => some (b :: bs)
      | none => none
    | none => none

def convT (D : Dt) (s : St) (src dst : Nat) (x : V) : Option V :=
  match D.T src, D.T dst with
  | some a, some b =>
    match a.d, b.d, x with
    | .int _, .int k, .int _ n => some (.int k (k.wrap n))
    | .str, .str, .str l => some (.str l)
    | .slice e, .str, x => if x.isStr then none else match D.T e with
      | some te => if te.d = TD.int .u8 && te.size = 1 then match srcT s 1 x with
          | some (_, cs) => (bytesL cs).map .str
          | none => none
        else none
      | none => none
    | _, _, _ => none
  | _, _ => none

def fillT (place : Nat → Option (Nat × Nat)) (cells : List V) : List (Nat × V) → Option (List V)
  | [] => some cells
  | (i, v) :: rest =>
    match place i with
    | none => none
    | some (off, size) => if v.cells.length = size && off + size ≤ cells.length && !v.isAny then fillT place (over cells off v.cells) rest else none

/-- Where a struct's field lies, and how many cells it has. -/
def placeS (D : Dt) (fs : List (Nat × Nat × Bool)) (i : Nat) : Option (Nat × Nat) :=
  match fs[i]? with
  | some (ft, off, _) => match D.T ft with
    | some f => some (off, f.size)
    | none => none
  | none => none

def buildT (D : Dt) (t : Nat) (parts : List (Nat × V)) : Option V :=
  match D.T t with
  | some ti => match ti.d with
    | .struct fs => (fillT (placeS D fs) ti.zero parts).map .agg
    | .array _ e => match D.T e with
      | some te => (fillT (fun i => some (i * te.size, te.size)) ti.zero parts).map .agg
      | none => none
    | _ => none
  | none => none

def reps (z : List V) : Nat → List V
  | 0 => []
  | n + 1 => z ++ reps z n

def buildSliceT (D : Dt) (s : St) (r : Option Nat) (t n : Nat) (parts : List (Nat × V)) : Option (V × St) :=
  match D.sl t with
  | some (_, te) =>
    if n * te.size ≤ 16777216 && te.zero.length = te.size && te.size ≠ 0 then
      match fillT (fun i => some (i * te.size, te.size)) (reps te.zero n) parts with
      | some cs =>
        if V.leadsL cs then (s.new r (.cells cs)).map fun p => (.so p.1 cs.length 0 n te.size, p.2)
        else some (.st true n cs, s)
      | none => none
    else none
  | none => none

def makeSliceT (D : Dt) (s : St) (r : Option Nat) (t : Nat) (len cap : V) : Option (V × St) :=
  match D.sl t, len, cap with
  | some (_, te), .int _ l, .int _ c =>
    if 0 ≤ l && l ≤ c && c * te.bytes ≤ 1099511627776 && c ≤ 1099511627776 && te.zero.length = te.size && te.size ≠ 0 then
      (s.new r (.cells (reps te.zero l.toNat))).map fun p => (.so p.1 (l.toNat * te.size) 0 l.toNat te.size, p.2)
    else none
  | _, _, _ => none

def V.plus (off : Nat) : V → Option V
  | .pb i e o => some (.pb i e (o + off))
  | .pt cs o => some (.pt cs (o + off))
  | _ => none

def fieldT (D : Dt) (t : Nat) (p : V) (f : Nat) : Option V :=
  match D.fld t f with
  | some (ft, off) => match D.T ft with
    | some tf => if tf.size = 0 then none else p.plus off
    | none => none
  | none => none

/-- A place in a slice. -/
def V.elem (sz : Nat) (k : Int) : V → Option V
  | .st _ n cs => if 0 ≤ k && k < n && cs.length = n * sz && sz ≠ 0 then some (.pt cs (k.toNat * sz)) else none
  | .so i e o n z => if 0 ≤ k && k < n && z = sz then some (.pb i e (o + k.toNat * sz)) else none
  | _ => none

def indexAddrT (D : Dt) (t : Nat) (x i : V) : Option V :=
  match i with
  | .int _ k => match D.sl t with
    | some (_, te) => x.elem te.size k
    | none => match D.ar t with
      | some (n, _, te) => if 0 ≤ k && k < n then x.plus (k.toNat * te.size) else none
      | none => none
  | _ => none

def indexT (D : Dt) (t : Nat) (x i : V) : Option V :=
  match x, i with
  | .agg cs, .int _ k => match D.ar t with
    | some (n, e, te) => if 0 ≤ k && k < n then partT D e cs (k.toNat * te.size) else none
    | none => none
  | .str b, .int _ k => if D.isStr t && 0 ≤ k then (b[k.toNat]?).map fun c => .int .u8 c.toNat else none
  | _, _ => none

/-- A bound of a slice expression, or what stands for it. -/
def getB (v : Option V) (d : Option Nat) : Option (Option Nat) :=
  match v with
  | none => some d
  | some (.int _ n) => if 0 ≤ n then some (some n.toNat) else none
  | some _ => none

def mxOk (h most : Nat) (hi : Bool) : Option Nat → Bool
  | some m => decide (h ≤ m) && decide (m ≤ most) && hi
  | none => true

/-- The bounds of a slice expression: low, high, and the bound of its room; each below the next, all at most 'most'. -/
def boundsT (len most : Nat) (lo hi mx : Option V) : Option (Nat × Nat × Option Nat) :=
  match getB mx none, getB hi (some len), getB lo (some 0) with
  | some m, some (some h), some (some l) =>
    if l ≤ h && h ≤ most && mxOk h most hi.isSome m then some (l, h, m) else none
  | _, _, _ => none

def sliceT (D : Dt) (s : St) (t : Nat) (x : V) (lo hi mx : Option V) : Option V :=
  match x with
  | .str b => if D.isStr t then match boundsT b.length b.length lo hi mx with
      | some (l, h, none) => some (.str ((b.drop l).take (h - l)))
      | _ => none
    else none
  | .st full n cs => match D.sl t, boundsT n n lo hi mx with
    | some (_, te), some (l, h, m) => if cs.length = n * te.size && te.size ≠ 0 then
        some (.st (m == some h || (full && h == n && m == none)) (h - l) ((cs.drop (l * te.size)).take ((h - l) * te.size))) else none
    | _, _ => none
  | .sn => match D.sl t, boundsT 0 0 lo hi mx with
    | some _, some _ => some .sn
    | _, _ => none
  | .so i e' off n z => match D.sl t, boundsT n n lo hi mx with
    | some (_, te), some (l, h, none) => if z = te.size && te.size ≠ 0 then some (.so i e' (off + l * z) (h - l) z) else none
    | _, _ => none
  | .pb i e' off => match D.ar t with
    | some (n, _, te) => match boundsT n n lo hi mx with
      | some (l, h, none) => if te.size ≠ 0 && off + n * te.size ≤ e' && (s.live i e').isSome then some (.so i e' (off + l * te.size) (h - l) te.size) else none
      | _ => none
    | none => none
  | _ => none

/-- Keys that a map may have: checked to the bottom. -/
def keyParts (f : Nat → V → Bool) (D : Dt) (cs : List V) : List (Nat × Nat × Bool) → Bool
  | [] => true
  | (t, off, blank) :: rest => (blank || (match partT D t cs off with | some x => f t x | none => false)) && keyParts f D cs rest

def keyT (D : Dt) : Nat → Nat → V → Bool
  | 0, _, _ => false
  | d + 1, t, k =>
    match D.T t with
    | none => false
    | some ti =>
      match ti.d, k with
      | .int _, .int _ _ => true
      | .bool, .bool _ => true
      | .str, .str _ => true
      | .struct fs, .agg cs => keyParts (keyT D d) D cs fs
      | .array n e, .agg cs => match D.T e with
        | some te => keyParts (keyT D d) D cs (elems e te.size n 0)
        | none => false
      | _, _ => false

def sameL (f : V → V → Bool) : List V → List V → Bool
  | [], [] => true
  | a :: as, b :: bs => f a b && sameL f as bs
  | _, _ => false

/-- The same to the last bit. -/
def V.same : Nat → V → V → Bool
  | _, .bool a, .bool b => a == b
  | _, .int j a, .int k b => j == k && a == b
  | _, .str a, .str b => a == b
  | n + 1, .agg a, .agg b => sameL (V.same n) a b
  | _, _, _ => false

def findT (D : Dt) (t : Nat) (k : V) : List (V × V) → Nat → Option (Option (Nat × V))
  | [], _ => some none
  | (a, v) :: es, i => match eqT D Op.maxDepth t k a with
    | some true => some (some (i, v))
    | some false => findT D t k es (i + 1)
    | none => none

def zeroT (D : Dt) (t : Nat) : Option V :=
  match D.T t with
  | some ti => if agg? ti.d then some (.agg ti.zero) else match ti.zero with
    | [v] => some v
    | _ => none
  | none => none

def lookV (D : Dt) (kt et : Nat) (k : V) (ok : Bool) (es : List (V × V)) : Option V :=
  if keyT D 6 kt k then match findT D kt k es 0 with
    | some (some (_, v)) => some (if ok then V.tup [v, .bool true] else v)
    | some none => (zeroT D et).map fun v => if ok then .tup [v, .bool false] else v
    | none => none
  else none

def lookupT (D : Dt) (s : St) (t : Nat) (m k : V) (ok : Bool) : Option V :=
  match D.mp t with
  | some (kt, et) => match m with
    | .mn => lookV D kt et k ok []
    | .mp i => match s.mem[i]? with
      | some (.map es) => lookV D kt et k ok es
      | _ => none
    | _ => none
  | none => none

def updateT (D : Dt) (s : St) (t : Nat) (m k v : V) : Option St :=
  match D.mp t, m with
  | some (kt, _), .mp i => match s.mem[i]? with
    | some (.map es) => if keyT D 6 kt k && !v.isAny then match findT D kt k es 0 with
        | some (some (j, _)) => match es[j]? with
          | some (a, _) => if V.same 4 a k then some (s.put i (.map (es.set j (k, v))) [k, v]) else none
          | none => none
        | some none => some (s.put i (.map (es ++ [(k, v)])) [k, v])
        | none => none
      else none
    | _ => none
  | _, _ => none

def nextT (s : St) (p : V) : Option (V × St) :=
  match p with
  | .pb i _ 0 => match s.mem[i]? with
    | some (.iter l pos) =>
      if pos < l.length then
        let c := Utf8.decode ⟨l.toArray⟩ pos
        some (.tup [.bool true, .int .i64 pos, .int .i32 c.1], { s with mem := s.mem.set i (.iter l (pos + c.2)) })
      else some (.tup [.bool false], s)
    | _ => none
  | _ => none

def assertT (D : Dt) (t : Nat) (ok : Bool) (x : V) : Option V :=
  match D.T t, x with
  | some ti, .iface u v => if ti.d.isIface then none else
      if u = t then some (if ok then .tup [v, .bool true] else v)
      else if ok then (zeroT D t).map fun z => .tup [z, .bool false] else none
  | some ti, .inil => if ok && !ti.d.isIface then (zeroT D t).map fun z => .tup [z, .bool false] else none
  | _, _ => none

def lenT (D : Dt) (s : St) (t : Nat) (x : V) : Option V :=
  match D.T t with
  | some ti => match ti.d, x with
    | .str, .str b => some (.int .i64 b.length)
    | .array n _, x => if x.isAny then none else some (.int .i64 n)
    | .slice _, .sn => some (.int .i64 0)
    | .slice _, .st _ n _ => some (.int .i64 n)
    | .slice _, .so i e _ n _ => match s.live i e with
      | some _ => some (.int .i64 n)
      | none => none
    | .map _ _, .mn => some (.int .i64 0)
    | .map _ _, .mp i => match s.mem[i]? with
      | some (.map es) => some (.int .i64 es.length)
      | _ => none
    | _, _ => none
  | none => none

def roomT : Nat := 1099511627776

/-- What may be appended: a slice or a string. -/
def Dt.row (D : Dt) : Option Nat → Bool
  | some u => match D.T u with
    | some ui => match ui.d with
      | .slice _ | .str => true
      | _ => false
    | none => false
  | none => false

def fitsT (k bytes : Nat) : Bool := decide (k * bytes ≤ roomT) && decide (k ≤ roomT) && decide (bytes ≤ 1073741824)

def appendT (D : Dt) (s : St) (r : Option Nat) (ts : Option Nat) (tx : Option Nat) (a x : V) : Option (V × St) :=
  match ts with
  | none => none
  | some t => match D.sl t with
    | none => none
    | some (_, te) =>
      if te.size = 0 || !D.row tx then none else
      match srcT s te.size x with
      | none => none
      | some (n, xs) =>
        if !(xs.all V.one) then none else
        match a with
        | .sn => if n = 0 then some (.sn, s) else
            if fitsT n te.bytes then (s.new r (.cells xs)).map fun p => (.so p.1 xs.length 0 n te.size, p.2) else none
        | .st full m cs => if n = 0 then some (.st full m cs, s) else
            if full && cs.length = m * te.size && fitsT (m + n) te.bytes then
              (s.new r (.cells (cs ++ xs))).map fun p => (.so p.1 (cs.length + xs.length) 0 (m + n) te.size, p.2)
            else none
        | .so i e off m z => match s.live i e with
          | none => none
          | some cs => if z = te.size && off = 0 && m * z = e && fitsT (m + n) te.bytes then
              if n = 0 then some (.so i e off m z, s) else
              some (.so i (e + xs.length) 0 (m + n) z, s.put i (.cells (cs ++ xs)) xs)
            else none
        | _ => none

def copyT (D : Dt) (s : St) (t : Option Nat) (a x : V) : Option (V × St) :=
  match t with
  | none => none
  | some t => match D.sl t with
    | none => none
    | some (_, te) => if te.size = 0 then none else match srcT s te.size x with
      | none => none
      | some (n, xs) =>
        match a with
        | .so i e off m z => match s.live i e with
          | some cs =>
            let k := min n m
            let new := xs.take (k * te.size)
            if z = te.size && off + k * z ≤ cs.length && new.all V.one then
              some (.int .i64 k, s.put i (.cells (over cs off new)) new)
            else none
          | none => none
        | _ => none

def foldI (f : Int → Int → Int) (k : IntKind) : Int → List V → Option V
  | a, [] => some (.int k a)
  | a, .int k' b :: rest => if k = k' then foldI f k (f a b) rest else none
  | _, _ => none

def minmaxT (f : Int → Int → Int) : List V → Option V
  | .int k a :: rest => foldI f k a rest
  | _ => none

def builtinT (D : Dt) (s : St) (r : Option Nat) (b : Builtin) (ts : Array TypeId) (args : List V) : Option (V × St) :=
  match b, args with
  | .len, [x] => match ts[0]? with
    | some t => (lenT D s t x).map (·, s)
    | none => none
  | .append, [a, x] => appendT D s r ts[0]? ts[1]? a x
  | .copy, [a, x] => copyT D s ts[0]? a x
  | .min, args => (minmaxT (fun x y => if y < x then y else x) args).map (·, s)
  | .max, args => (minmaxT (fun x y => if y > x then y else x) args).map (·, s)
  | _, _ => none

/-- An operation that enters no function. -/
def opT (D : Dt) (ρ : Env) (o : Oper) (r : Option Nat) (s : St) : Option (V × St) :=
  match o.op with
  | .move x | .assign x => some (ρ.ev D x, s)
  | .pick c a b => match ρ.ev D c with
    | .bool t => some (if t then ρ.ev D a else ρ.ev D b, s)
    | _ => none
  | .alloc t => match D.T t with
    | some ti => (s.new r (.cells ti.zero)).map fun p => (.pb p.1 ti.zero.length 0, p.2)
    | none => none
  | .box _ x => match ρ.ev D x with
    | .any => none
    | v => (s.new r (.cells v.cells)).map fun p => (.pb p.1 v.cells.length 0, p.2)
  | .build t ps => (buildT D t (ps.toList.map fun (i, x) => (i, ρ.ev D x))).map (·, s)
  | .buildSlice t n ps => buildSliceT D s r t n (ps.toList.map fun (i, x) => (i, ρ.ev D x))
  | .load t a => (loadT D s t (ρ.ev D a)).map (·, s)
  | .store t a x => (storeT D s t (ρ.ev D a) (ρ.ev D x)).map (.tup [], ·)
  | .nilCheck x => match ρ.ev D x with
    | .pb i e o => some (.pb i e o, s)
    | .pt cs o => some (.pt cs o, s)
    | .fn f cap => some (.fn f cap, s)
    | _ => none
  | .binOp op t x y _ => (binT D op t (isConstOp x) (isConstOp y) (ρ.ev D x) (ρ.ev D y)).map (·, s)
  | .unOp op _ x => (unT op (ρ.ev D x)).map (·, s)
  | .convert a b x => (convT D s a b (ρ.ev D x)).map (·, s)
  | .makeInterface t x => match D.T t with
    | some ti => if ti.d.isIface then none else some (.iface t (ρ.ev D x), s)
    | none => none
  | .makeFunc (.func f) first captured => if first.isEmpty then some (.fn f (captured.toList.map (ρ.ev D)), s) else none
  | .makeMap _ none => (s.new r (.map [])).map fun p => (.mp p.1, p.2)
  | .makeSlice t l c => makeSliceT D s r t (ρ.ev D l) (ρ.ev D c)
  | .slice t x lo hi mx => (sliceT D s t (ρ.ev D x) (lo.map (ρ.ev D)) (hi.map (ρ.ev D)) (mx.map (ρ.ev D))).map (·, s)
  | .fieldAddr t x f => (fieldT D t (ρ.ev D x) f).map (·, s)
  | .field t x f => match D.fld t f, ρ.ev D x with
    | some (ft, off), .agg cs => (partT D ft cs off).map (·, s)
    | _, _ => none
  | .indexAddr t x i => (indexAddrT D t (ρ.ev D x) (ρ.ev D i)).map (·, s)
  | .index t x i => (indexT D t (ρ.ev D x) (ρ.ev D i)).map (·, s)
  | .lookup t m k ok => (lookupT D s t (ρ.ev D m) (ρ.ev D k) ok).map (·, s)
  | .mapUpdate t m k v | .insert t m k v => (updateT D s t (ρ.ev D m) (ρ.ev D k) (ρ.ev D v)).map (.tup [], ·)
  | .range t x => match ρ.ev D x with
    | .str l => if D.isStr t then (s.new r (.iter l 0)).map fun p => (.pb p.1 0 0, p.2) else none
    | _ => none
  | .next p true => nextT s (ρ.ev D p)
  | .typeAssert x _ t ok => (assertT D t ok (ρ.ev D x)).map (·, s)
  | .extract x i => match ρ.ev D x with
    | .tup vs => (vs[i]?).map (·, s)
    | _ => none
  | .call { callee := .builtin b, args, argTypes } => builtinT D s r b argTypes (args.toList.map (ρ.ev D))
  | _ => none

/-- A call of a function of the program's: which, and of what. -/
def callT (D : Dt) (ρ : Env) (o : Oper) : Option (Nat × List V) :=
  match o.op with
  | .call { callee := .value f, args, .. } => match ρ.ev D f with
    | .fn g cap => some (g, args.toList.map (ρ.ev D) ++ cap)
    | _ => none
  | _ => none

/-- Is an operation wanted? Nothing: it is not known. -/
def wantedT (ρ : Env) (ops : Array Oper) (o : Oper) : Option Bool :=
  match o.guard with
  | none => some true
  | some (j, want) => match (ops[j]?).bind (·.dst) with
    | none => some false
    | some d => match ρ d with
      | .bool b => some (b == want)
      | .any => none
      | _ => some false

/-- Does an operation make a block? -/
def makes (o : Oper) : Bool :=
  match o.op with
  | .alloc _ | .box .. | .buildSlice .. | .makeSlice .. | .makeMap .. | .range .. => true
  | .call { callee := .builtin .append, .. } => true
  | _ => false

/-- How many operations ahead of number i make blocks. -/
def rank (ops : Array Oper) (i : Nat) : Nat := ((ops.toList.take i).filter makes).length

/-- The place kept free for an operation, if it makes a block. -/
def slot (ops : Array Oper) (b : Option Nat) (i : Nat) : Option Nat :=
  match ops[i]? with
  | some o => if makes o then b.map (· + rank ops i) else none
  | none => none

theorem slot_some {ops : Array Oper} {b : Option Nat} {i j : Nat} (h : slot ops b i = some j) : ∃ n, b = some n ∧ n ≤ j := by
  unfold slot at h
  split at h
  · split at h
    · cases b with
      | none => cases h
      | some n =>
        simp only [Option.map_some, Option.some.injEq] at h
        exact ⟨n, rfl, by omega⟩
    · cases h
  · cases h

/-- Places kept free for a region's operations. -/
def St.pad (s : St) (ops : Array Oper) : St := { s with mem := s.mem ++ List.replicate (rank ops ops.size) .vac }

mutual
/-- A value that leads nowhere, out of one that leads to slices alone; g: what becomes of these. -/
def V.stillW (g : Nat → Nat → Nat → Nat → Nat → Option V) : V → Option V
  | .pb .. | .mp _ | .any => none
  | .so i e off m z => g i e off m z
  | .agg cs => match V.stillL g cs with
    | some cs => some (.agg cs)
    | none => none
  | .tup cs => match V.stillL g cs with
    | some cs => some (.tup cs)
    | none => none
  | .fn f cs => match V.stillL g cs with
    | some cs => some (.fn f cs)
    | none => none
  | .iface t v => match V.stillW g v with
    | some v => some (.iface t v)
    | none => none
  | v => some v
def V.stillL (g : Nat → Nat → Nat → Nat → Nat → Option V) : List V → Option (List V)
  | [] => some []
  | v :: vs => match V.stillW g v with
    | some v => match V.stillL g vs with
      | some vs => some (v :: vs)
      | none => none
    | none => none
end

/-- A slice of a block from n on becomes one of cells that stay; so do those within. -/
def stillG (n : Nat) (mem : List Blk) : Nat → Nat → Nat → Nat → Nat → Nat → Option V
  | 0, _, _, _, _, _ => none
  | d + 1, i, e, off, m, z => if n ≤ i then match mem[i]? with
      | some (.cells cs) => if cs.length = e then match sub cs off (m * z) with
          | some l => match V.stillL (stillG n mem d) l with
            | some l => some (.st false m l)
            | none => none
          | none => none
        else none
      | _ => none
    else none

/-- What a call hands back: if it leads nowhere into the call's own blocks, and no older block does, these are forgotten. -/
def leave (n lo : Nat) (v : V) (s : St) : V × St :=
  if s.lo < n then (v, { s with lo := min lo s.lo }) else
  match V.stillW (stillG n s.mem 20) v with
  | some v => (v, { mem := s.mem.take n, lo })
  | none => (v, { s with lo })

mutual
/-- It leads to blocks below number k alone. -/
def V.low (k : Nat) : V → Bool
  | .pb j _ _ | .so j _ _ _ _ | .mp j => j < k
  | .agg cs | .tup cs | .fn _ cs => V.lowL k cs
  | .iface _ v => v.low k
  | _ => true
def V.lowL (k : Nat) : List V → Bool
  | [] => true
  | v :: vs => v.low k && V.lowL k vs
end

/-- What becomes of a value when the blocks from n on are forgotten: places in them become places in cells that stay. -/
def frzV (n : Nat) (mem : List Blk) : V → V
  | .pb i e off => if i < n then .pb i e off else match mem[i]? with
    | some (.cells cs) => if cs.length = e && !(V.leadsL cs) then .pt cs off else .any
    | _ => .any
  | .so i e off m z => if i < n then .so i e off m z else match stillG n mem 20 i e off m z with
    | some v => v
    | none => .any
  | v => if v.low n then v else match V.stillW (stillG n mem 20) v with
    | some v => v
    | none => .any

def resT (D : Dt) (ρ : Env) (s : St) : ResultVar → Option V
  | .tmp t => match ρ t with
    | V.any => none
    | v => some v
  | .cell a t => loadT D s t (ρ a)

def resultsT (D : Dt) (fn : Func) (ρ : Env) (s : St) : Option V :=
  match fn.results.toList with
  | [r] => resT D ρ s r
  | rs => (rs.mapM (resT D ρ s)).map .tup

inductive Ex where
  | nrm
  | ext (id : Nat)
  | ret
  deriving DecidableEq

def Ex.inBlock (id : Nat) : Ex → Ex
  | .ext j => if j = id then .nrm else .ext j
  | x => x

def entry (args : List V) : Env := fun t => args.getD t (.tup [])

mutual
/-- Code comes to an end: from these values of the slots and these blocks to those. -/
inductive EvC (D : Dt) : Code → Env → St → Ex → Env → St → Prop
  | skip {ρ s} : EvC D .skip ρ s .nrm ρ s
  | label {l ρ s} : EvC D (.label l) ρ s .nrm ρ s
  | seqN {a b ρ s ρ1 s1 x ρ2 s2} : EvC D a ρ s .nrm ρ1 s1 → EvC D b ρ1 s1 x ρ2 s2 → EvC D (.seq a b) ρ s x ρ2 s2
  | seqX {a b ρ s x ρ1 s1} : EvC D a ρ s x ρ1 s1 → x ≠ .nrm → EvC D (.seq a b) ρ s x ρ1 s1
  | cond {c a b ρ s t x ρ1 s1} : ρ.ev D c = .bool t → EvC D (if t then a else b) ρ s x ρ1 s1 → EvC D (.cond c a b) ρ s x ρ1 s1
  | block {id c ρ s x ρ1 s1} : EvC D c ρ s x ρ1 s1 → EvC D (.block id c) ρ s (x.inBlock id) ρ1 s1
  | loopN {c ρ s ρ1 s1 x ρ2 s2} : EvC D c ρ s .nrm ρ1 s1 → EvC D (.loop c) ρ1 s1 x ρ2 s2 → EvC D (.loop c) ρ s x ρ2 s2
  | loopX {c ρ s x ρ1 s1} : EvC D c ρ s x ρ1 s1 → x ≠ .nrm → EvC D (.loop c) ρ s x ρ1 s1
  | exit {id ρ s} : EvC D (.exit id) ρ s (.ext id) ρ s
  | ret {ρ s} : EvC D .ret ρ s .ret ρ s
  | region {id ops ρ s ρ1 s1} : EvR D ops none (List.range ops.size) ρ s ρ1 s1 → EvC D (.region id ops false) ρ s .nrm ρ1 s1
  | draw {id ops ρ s ρ1 s1} : (∀ t, EvR D ops (some s.mem.length) (Region.linearise .any ops t) ρ (s.pad ops) ρ1 s1) →
      EvC D (.region id ops true) ρ s .nrm ρ1 s1
  /-- blocks that the code made are forgotten -/
  | scope {c ρ s x ρ1 s1} : EvC D c ρ ⟨s.mem, s.mem.length⟩ x ρ1 s1 → s.mem.length ≤ s1.lo →
      EvC D c ρ s x (fun t => frzV s.mem.length s1.mem (ρ1 t)) ⟨s1.mem.take s.mem.length, s.lo⟩
/-- Operations, in this order. -/
inductive EvR (D : Dt) : Array Oper → Option Nat → List Nat → Env → St → Env → St → Prop
  | nil {ops b ρ s} : EvR D ops b [] ρ s ρ s
  | none {ops b i l ρ s ρ1 s1} : ops[i]? = none → EvR D ops b l ρ s ρ1 s1 → EvR D ops b (i :: l) ρ s ρ1 s1
  | skip {ops b i l o ρ s ρ1 s1} : ops[i]? = some o → wantedT ρ ops o = some false → EvR D ops b l (ρ.put o.dst (.tup [])) s ρ1 s1 →
      EvR D ops b (i :: l) ρ s ρ1 s1
  | op {ops b i l o ρ s v s1 ρ2 s2} : ops[i]? = some o → wantedT ρ ops o = some true → opT D ρ o (slot ops b i) s = some (v, s1) →
      EvR D ops b l (ρ.put o.dst v) s1 ρ2 s2 → EvR D ops b (i :: l) ρ s ρ2 s2
  | call {ops b i l o ρ s f args v s1 ρ2 s2} : ops[i]? = some o → wantedT ρ ops o = some true → callT D ρ o = some (f, args) →
      EvF D f args s v s1 → EvR D ops b l (ρ.put o.dst v) s1 ρ2 s2 → EvR D ops b (i :: l) ρ s ρ2 s2
/-- A call. -/
inductive EvF (D : Dt) : Nat → List V → St → V → St → Prop
  | mk {f fn c args s x ρ1 s1 v} : D.P.funcs[f]? = some fn → fn.body = some c → args.length ≤ fn.ntmps →
      EvC D c (entry args) { s with lo := s.mem.length } x ρ1 s1 → x = .nrm ∨ x = .ret → resultsT D fn ρ1 s1 = some v →
      EvF D f args s (leave s.mem.length s.lo v s1).1 (leave s.mem.length s.lo v s1).2
end

end Go.Pe

namespace Go.Pe

mutual
/-- A value that leads to no block of the evaluator's, and the model's value. -/
def VT (h : Array Obj) (I : Nat → Prop) : V → Value → Prop
  | .any, _ => True
  | .bool b, x => x = .bool b
  | .int k n, x => x = .int k n
  | .str s, x => x = .string ⟨s.toArray⟩
  | .agg cs, x => ∃ xs, x = .agg xs ∧ VTs h I cs xs.toList
  | .tup cs, x => ∃ xs, x = .tuple xs ∧ VTs h I cs xs.toList
  | .nilp, x => x = .pointer none
  | .pb .., _ => False
  | .pt cells off, x => ∃ b o c e fr, x = .pointer (some ⟨b, o + off, none⟩) ∧ I b ∧ h[b]? = some (.cells c e fr) ∧ VTs h I cells ((c.toList.drop o).take cells.length)
  | .sn, x => x = .slice none 0 0
  | .st full n cells, x => ∃ a cap, x = .slice a n cap ∧ n ≤ cap ∧ (full = true → cap = n) ∧
      (cells = [] ∨ ∃ b o c e fr, a = some ⟨b, o, none⟩ ∧ I b ∧ h[b]? = some (.cells c e fr) ∧ VTs h I cells ((c.toList.drop o).take cells.length))
  | .so .., _ => False
  | .mn, x => x = .map none
  | .mp _, _ => False
  | .fn f cap, x => ∃ xs, x = .func (.func f) #[] xs ∧ VTs h I cap xs.toList
  | .fnil, x => x = .nilFunc
  | .iface t v, x => ∃ y, x = .iface t y ∧ VT h I v y
  | .inil, x => x = .nilIface
def VTs (h : Array Obj) (I : Nat → Prop) : List V → List Value → Prop
  | [], [] => True
  | v :: vs, x :: xs => VT h I v x ∧ VTs h I vs xs
  | _, _ => False
end

mutual
theorem VT.mono {h h' : Array Obj} {I I' : Nat → Prop} (hh : ∀ b, I b → h'[b]? = h[b]?) (hI : ∀ b, I b → I' b) : ∀ (v : V) (x : Value), VT h I v x → VT h' I' v x
  | .any, _, H | .bool _, _, H | .int _ _, _, H | .str _, _, H | .nilp, _, H | .sn, _, H | .mn, _, H | .fnil, _, H | .inil, _, H => by
    simpa only [VT] using H
  | .pb .., _, H | .so .., _, H | .mp _, _, H => by simp only [VT] at H
  | .agg cs, x, H => by
    simp only [VT] at H ⊢
    obtain ⟨xs, e, H⟩ := H
    exact ⟨xs, e, VTs.mono hh hI cs xs.toList H⟩
  | .tup cs, x, H => by
    simp only [VT] at H ⊢
    obtain ⟨xs, e, H⟩ := H
    exact ⟨xs, e, VTs.mono hh hI cs xs.toList H⟩
  | .pt cells off, x, H => by
    simp only [VT] at H ⊢
    obtain ⟨b, o, c, e, fr, h1, h2, h3, h4⟩ := H
    exact ⟨b, o, c, e, fr, h1, hI b h2, (hh b h2).trans h3, VTs.mono hh hI cells _ h4⟩
  | .st full n cells, x, H => by
    simp only [VT] at H ⊢
    obtain ⟨a, cap, h1, h2, h3, h4⟩ := H
    refine ⟨a, cap, h1, h2, h3, ?_⟩
    rcases h4 with h4 | ⟨b, o, c, e, fr, h5, h6, h7, h8⟩
    · exact .inl h4
    · exact .inr ⟨b, o, c, e, fr, h5, hI b h6, (hh b h6).trans h7, VTs.mono hh hI cells _ h8⟩
  | .fn f cap, x, H => by
    simp only [VT] at H ⊢
    obtain ⟨xs, e, H⟩ := H
    exact ⟨xs, e, VTs.mono hh hI cap xs.toList H⟩
  | .iface t v, x, H => by
    simp only [VT] at H ⊢
    obtain ⟨y, e, H⟩ := H
    exact ⟨y, e, VT.mono hh hI v y H⟩
theorem VTs.mono {h h' : Array Obj} {I I' : Nat → Prop} (hh : ∀ b, I b → h'[b]? = h[b]?) (hI : ∀ b, I b → I' b) : ∀ (vs : List V) (xs : List Value), VTs h I vs xs → VTs h' I' vs xs
  | [], [], _ => by simp only [VTs]
  | [], _ :: _, H => by simp only [VTs] at H
  | _ :: _, [], H => by simp only [VTs] at H
  | v :: vs, x :: xs, H => by
    simp only [VTs] at H ⊢
    exact ⟨VT.mono hh hI v x H.1, VTs.mono hh hI vs xs H.2⟩
end

/-- The model's heap, the evaluator's blocks, and where each of these lies. -/
structure Cx where
  h : Array Obj
  m : List Blk
  r : Nat → Nat

def Cx.has (c : Cx) (i : Nat) : Prop := i < c.m.length ∧ c.m[i]? ≠ some .vac

/-- A block that none of the evaluator's is: it stays as it is. -/
def Cx.I (c : Cx) (b : Nat) : Prop := b < c.h.size ∧ ∀ i, c.has i → c.r i ≠ b

/-- A place in block i. -/
def PR (c : Cx) (i e off : Nat) (x : Value) : Prop :=
  match c.m[i]? with
  | some (.cells cs) => (∃ b, x = .pointer (some b)) ∧ e ≤ cs.length ∧ (cs.length = e → x = .pointer (some ⟨c.r i, off, none⟩))
  | some (.iter _ _) => (∃ b, x = .pointer (some b)) ∧ (off = 0 → x = .pointer (some ⟨c.r i, 0, none⟩))
  | _ => False

/-- A slice of block i. -/
def SR (c : Cx) (i e off n sz : Nat) (x : Value) : Prop :=
  match c.m[i]? with
  | some (.cells cs) => (∃ a m, x = .slice (some a) n m ∧ n ≤ m) ∧ e ≤ cs.length ∧ (cs.length = e → off + n * sz ≤ e ∧ ∃ a cap, x = .slice (some a) n cap ∧ n ≤ cap ∧ (0 < cap → a = ⟨c.r i, off, none⟩) ∧
      ∀ l el fr, c.h[c.r i]? = some (.cells l el fr) → off + cap * sz ≤ l.size)
  | _ => False

mutual
def VR (c : Cx) : V → Value → Prop
  | .pb i e off, x => PR c i e off x
  | .so i e off n sz, x => SR c i e off n sz x
  | .mp i, x => (∃ es, c.m[i]? = some (.map es)) ∧ x = .map (some (c.r i))
  | .agg cs, x => ∃ xs, x = .agg xs ∧ VRs c cs xs.toList
  | .tup cs, x => ∃ xs, x = .tuple xs ∧ VRs c cs xs.toList
  | .fn f cap, x => ∃ xs, x = .func (.func f) #[] xs ∧ VRs c cap xs.toList
  | .iface t v, x => ∃ y, x = .iface t y ∧ VR c v y
  | v, x => VT c.h c.I v x
def VRs (c : Cx) : List V → List Value → Prop
  | [], [] => True
  | v :: vs, x :: xs => VR c v x ∧ VRs c vs xs
  | _, _ => False
end

mutual
theorem VR.ofT {c : Cx} : ∀ (v : V) (x : Value), VT c.h c.I v x → VR c v x
  | .any, _, H | .bool _, _, H | .int _ _, _, H | .str _, _, H | .nilp, _, H | .sn, _, H | .mn, _, H | .fnil, _, H | .inil, _, H
  | .pt .., _, H | .st .., _, H => by simpa only [VR] using H
  | .pb .., _, H | .so .., _, H | .mp _, _, H => by simp only [VT] at H
  | .agg cs, x, H => by
    simp only [VT, VR] at H ⊢
    obtain ⟨xs, e, H⟩ := H
    exact ⟨xs, e, VRs.ofT cs xs.toList H⟩
  | .tup cs, x, H => by
    simp only [VT, VR] at H ⊢
    obtain ⟨xs, e, H⟩ := H
    exact ⟨xs, e, VRs.ofT cs xs.toList H⟩
  | .fn f cap, x, H => by
    simp only [VT, VR] at H ⊢
    obtain ⟨xs, e, H⟩ := H
    exact ⟨xs, e, VRs.ofT cap xs.toList H⟩
  | .iface t v, x, H => by
    simp only [VT, VR] at H ⊢
    obtain ⟨y, e, H⟩ := H
    exact ⟨y, e, VR.ofT v y H⟩
theorem VRs.ofT {c : Cx} : ∀ (vs : List V) (xs : List Value), VTs c.h c.I vs xs → VRs c vs xs
  | [], [], _ => by simp only [VRs]
  | [], _ :: _, H => by simp only [VTs] at H
  | _ :: _, [], H => by simp only [VTs] at H
  | v :: vs, x :: xs, H => by
    simp only [VTs, VRs] at H ⊢
    exact ⟨VR.ofT v x H.1, VRs.ofT vs xs H.2⟩
end

mutual
/-- What leads nowhere is held against the heap alone. -/
theorem VR.toT {c : Cx} : ∀ (v : V) (x : Value), v.leads = false → VR c v x → VT c.h c.I v x
  | .any, _, _, H | .bool _, _, _, H | .int _ _, _, _, H | .str _, _, _, H | .nilp, _, _, H | .sn, _, _, H | .mn, _, _, H | .fnil, _, _, H | .inil, _, _, H
  | .pt .., _, _, H | .st .., _, _, H => by simpa only [VR] using H
  | .pb .., _, e, _ | .so .., _, e, _ | .mp _, _, e, _ => by simp only [V.leads] at e; cases e
  | .agg cs, x, e, H => by
    simp only [VT, VR, V.leads] at H e ⊢
    obtain ⟨xs, e', H⟩ := H
    exact ⟨xs, e', VRs.toT cs xs.toList e H⟩
  | .tup cs, x, e, H => by
    simp only [VT, VR, V.leads] at H e ⊢
    obtain ⟨xs, e', H⟩ := H
    exact ⟨xs, e', VRs.toT cs xs.toList e H⟩
  | .fn f cap, x, e, H => by
    simp only [VT, VR, V.leads] at H e ⊢
    obtain ⟨xs, e', H⟩ := H
    exact ⟨xs, e', VRs.toT cap xs.toList e H⟩
  | .iface t v, x, e, H => by
    simp only [VT, VR, V.leads] at H e ⊢
    obtain ⟨y, e', H⟩ := H
    exact ⟨y, e', VR.toT v y e H⟩
theorem VRs.toT {c : Cx} : ∀ (vs : List V) (xs : List Value), V.leadsL vs = false → VRs c vs xs → VTs c.h c.I vs xs
  | [], [], _, _ => by simp only [VTs]
  | [], _ :: _, _, H => by simp only [VRs] at H
  | _ :: _, [], _, H => by simp only [VRs] at H
  | v :: vs, x :: xs, e, H => by
    simp only [VTs, VRs, V.leadsL, Bool.or_eq_false_iff] at H e ⊢
    exact ⟨VR.toT v x e.1 H.1, VRs.toT vs xs e.2 H.2⟩
end

/-- The entries of a map. -/
def MR (c : Cx) : List (V × V) → List MapEntry → Prop
  | [], [] => True
  | (k, v) :: es, x :: xs => VR c k x.key ∧ VR c v x.val ∧ MR c es xs
  | _, _ => False

/-- A block of the evaluator's, and the model's. -/
def BR (c : Cx) (i : Nat) : Blk → Prop
  | .cells cs => ∃ l el, c.h[c.r i]? = some (.cells l el (0, 0)) ∧ VRs c cs (l.toList.take cs.length)
  | .map es => ∃ l ck, c.h[c.r i]? = some (.map l ck) ∧ MR c es l.toList
  | .iter s p => c.h[c.r i]? = some (.stringIter ⟨s.toArray⟩ p)
  | .vac => True

structure Ok (c : Cx) : Prop where
  blk : ∀ i b, c.m[i]? = some b → BR c i b
  inj : ∀ i j, c.has i → c.has j → c.r i = c.r j → i = j
  lt : ∀ i, c.has i → c.r i < c.h.size

/-- What a block may become. -/
def Keeps (c c' : Cx) (i : Nat) : Prop :=
  match c.m[i]? with
  | some (.cells cs) => ∃ cs', c'.m[i]? = some (.cells cs') ∧ cs.length ≤ cs'.length ∧
      (cs'.length = cs.length → c'.r i = c.r i ∧ ∀ l' el fr, c'.h[c.r i]? = some (.cells l' el fr) → ∃ l el fr, c.h[c.r i]? = some (.cells l el fr) ∧ l.size = l'.size)
  | some (.map _) => (∃ es', c'.m[i]? = some (.map es')) ∧ c'.r i = c.r i
  | some (.iter _ _) => (∃ s p, c'.m[i]? = some (.iter s p)) ∧ c'.r i = c.r i
  | _ => True

/-- What a step may do. -/
structure Ext (c c' : Cx) : Prop where
  size : c.h.size ≤ c'.h.size
  imm : ∀ b, c.I b → c'.h[b]? = c.h[b]? ∧ c'.I b
  len : c.m.length ≤ c'.m.length
  blk : ∀ i, Keeps c c' i

theorem Ext.refl (c : Cx) : Ext c c := ⟨Nat.le_refl _, fun _ h => ⟨rfl, h⟩, Nat.le_refl _, fun i => by
  unfold Keeps
  split
  · rename_i cs h; exact ⟨cs, h, Nat.le_refl _, fun _ => ⟨rfl, fun l el fr hl => ⟨l, el, fr, hl, rfl⟩⟩⟩
  · rename_i es h; exact ⟨⟨es, h⟩, rfl⟩
  · rename_i s p h; exact ⟨⟨s, p, h⟩, rfl⟩
  · trivial⟩

theorem Ext.trans {a b c : Cx} (h : Ext a b) (k : Ext b c) : Ext a c :=
  ⟨Nat.le_trans h.size k.size, fun x hx => ⟨(k.imm x (h.imm x hx).2).1.trans (h.imm x hx).1, (k.imm x (h.imm x hx).2).2⟩, Nat.le_trans h.len k.len, fun i => by
    have h1 := h.blk i
    have h2 := k.blk i
    unfold Keeps at *
    split
    · rename_i cs hcs
      rw [hcs] at h1
      obtain ⟨cs1, e1, l1, p1⟩ := h1
      rw [e1] at h2
      obtain ⟨cs2, e2, l2, p2⟩ := h2
      refine ⟨cs2, e2, by omega, fun hl => ?_⟩
      obtain ⟨q1, q2⟩ := p1 (by omega)
      obtain ⟨q3, q4⟩ := p2 (by omega)
      refine ⟨q3.trans q1, fun l el fr hl => ?_⟩
      rw [← q1] at hl
      obtain ⟨l1', el1, fr1, e3, e4⟩ := q4 l el fr hl
      rw [q1] at e3
      obtain ⟨l2', el2, fr2, e5, e6⟩ := q2 _ _ _ e3
      exact ⟨l2', el2, fr2, e5, by omega⟩
    · rename_i es hes
      rw [hes] at h1
      obtain ⟨⟨es1, e1⟩, q1⟩ := h1
      rw [e1] at h2
      exact ⟨h2.1, h2.2.trans q1⟩
    · rename_i s p hsp
      rw [hsp] at h1
      obtain ⟨⟨s1, p1, e1⟩, q1⟩ := h1
      rw [e1] at h2
      exact ⟨h2.1, h2.2.trans q1⟩
    · trivial⟩

theorem PR.ext {c c' : Cx} (X : Ext c c') {i e off : Nat} {x : Value} (H : PR c i e off x) : PR c' i e off x := by
  have := X.blk i
  unfold PR at *
  unfold Keeps at this
  split at H
  · rename_i cs hcs
    rw [hcs] at this
    obtain ⟨cs', e1, l1, p1⟩ := this
    rw [e1]
    refine ⟨H.1, by have := H.2.1; omega, fun hl => ?_⟩
    have he : cs'.length = cs.length := by have := H.2.1; omega
    rw [(p1 he).1]
    exact H.2.2 (by omega)
  · rename_i s p hsp
    rw [hsp] at this
    obtain ⟨⟨s1, p1, e1⟩, q1⟩ := this
    rw [e1, q1]
    exact H
  · exact H.elim

theorem SR.ext {c c' : Cx} (X : Ext c c') {i e off n sz : Nat} {x : Value} (H : SR c i e off n sz x) : SR c' i e off n sz x := by
  have := X.blk i
  unfold SR at *
  unfold Keeps at this
  split at H
  · rename_i cs hcs
    rw [hcs] at this
    obtain ⟨cs', e1, l1, p1⟩ := this
    rw [e1]
    refine ⟨H.1, by have := H.2.1; omega, fun hl => ?_⟩
    have he : cs'.length = cs.length := by have := H.2.1; omega
    obtain ⟨q1, q2⟩ := p1 he
    obtain ⟨h0, a, cap, h1, h2, h4, h3⟩ := H.2.2 (by omega)
    refine ⟨h0, a, cap, h1, h2, by rw [q1]; exact h4, fun l el fr hl => ?_⟩
    rw [q1] at hl
    obtain ⟨l2, el2, fr2, e3, e4⟩ := q2 l el fr hl
    have := h3 _ _ _ e3
    omega
  · exact H.elim

mutual
theorem VR.ext {c c' : Cx} (X : Ext c c') : ∀ (v : V) (x : Value), VR c v x → VR c' v x
  | .any, _, H | .bool _, _, H | .int _ _, _, H | .str _, _, H | .nilp, _, H | .sn, _, H | .mn, _, H | .fnil, _, H | .inil, _, H
  | .pt .., _, H | .st .., _, H => by
    simp only [VR] at H ⊢
    exact VT.mono (fun b hb => (X.imm b hb).1) (fun b hb => (X.imm b hb).2) _ _ H
  | .pb .., _, H => by simp only [VR] at H ⊢; exact H.ext X
  | .so .., _, H => by simp only [VR] at H ⊢; exact H.ext X
  | .mp i, _, H => by
    simp only [VR] at H ⊢
    obtain ⟨⟨es, he⟩, hx⟩ := H
    have := X.blk i
    unfold Keeps at this
    rw [he] at this
    exact ⟨this.1, by rw [this.2]; exact hx⟩
  | .agg cs, x, H => by
    simp only [VR] at H ⊢
    obtain ⟨xs, e, H⟩ := H
    exact ⟨xs, e, VRs.ext X cs xs.toList H⟩
  | .tup cs, x, H => by
    simp only [VR] at H ⊢
    obtain ⟨xs, e, H⟩ := H
    exact ⟨xs, e, VRs.ext X cs xs.toList H⟩
  | .fn f cap, x, H => by
    simp only [VR] at H ⊢
    obtain ⟨xs, e, H⟩ := H
    exact ⟨xs, e, VRs.ext X cap xs.toList H⟩
  | .iface t v, x, H => by
    simp only [VR] at H ⊢
    obtain ⟨y, e, H⟩ := H
    exact ⟨y, e, VR.ext X v y H⟩
theorem VRs.ext {c c' : Cx} (X : Ext c c') : ∀ (vs : List V) (xs : List Value), VRs c vs xs → VRs c' vs xs
  | [], [], _ => by simp only [VRs]
  | [], _ :: _, H => by simp only [VRs] at H
  | _ :: _, [], H => by simp only [VRs] at H
  | v :: vs, x :: xs, H => by
    simp only [VRs] at H ⊢
    exact ⟨VR.ext X v x H.1, VRs.ext X vs xs H.2⟩
end

theorem MR.ext {c c' : Cx} (X : Ext c c') : ∀ (es : List (V × V)) (xs : List MapEntry), MR c es xs → MR c' es xs
  | [], [], _ => by simp only [MR]
  | [], _ :: _, H => by simp only [MR] at H
  | _ :: _, [], H => by simp only [MR] at H
  | (k, v) :: es, x :: xs, H => by
    simp only [MR] at H ⊢
    exact ⟨VR.ext X k _ H.1, VR.ext X v _ H.2.1, MR.ext X es xs H.2.2⟩

theorem VRs.len {c : Cx} : ∀ (vs : List V) (xs : List Value), VRs c vs xs → vs.length = xs.length
  | [], [], _ => rfl
  | [], _ :: _, H => by simp only [VRs] at H
  | _ :: _, [], H => by simp only [VRs] at H
  | v :: vs, x :: xs, H => by
    simp only [VRs] at H
    simp [VRs.len vs xs H.2]

theorem VTs.len {h : Array Obj} {I : Nat → Prop} : ∀ (vs : List V) (xs : List Value), VTs h I vs xs → vs.length = xs.length
  | [], [], _ => rfl
  | [], _ :: _, H => by simp only [VTs] at H
  | _ :: _, [], H => by simp only [VTs] at H
  | v :: vs, x :: xs, H => by
    simp only [VTs] at H
    simp [VTs.len vs xs H.2]

theorem VRs.get {c : Cx} : ∀ (vs : List V) (xs : List Value), VRs c vs xs → ∀ (i : Nat) (v : V), vs[i]? = some v → ∃ x, xs[i]? = some x ∧ VR c v x
  | [], [], _, i, v, h => by simp at h
  | [], _ :: _, H, _, _, _ => by simp only [VRs] at H
  | _ :: _, [], H, _, _, _ => by simp only [VRs] at H
  | v :: vs, x :: xs, H, 0, u, h => by
    simp only [VRs] at H
    simp at h
    subst h
    exact ⟨x, by simp, H.1⟩
  | v :: vs, x :: xs, H, i + 1, u, h => by
    simp only [VRs] at H
    simp at h
    obtain ⟨y, e, hy⟩ := VRs.get vs xs H.2 i u h
    exact ⟨y, by simpa using e, hy⟩

theorem VTs.get {hp : Array Obj} {I : Nat → Prop} : ∀ (vs : List V) (xs : List Value), VTs hp I vs xs → ∀ (i : Nat) (v : V), vs[i]? = some v → ∃ x, xs[i]? = some x ∧ VT hp I v x
  | [], [], _, i, v, h => by simp at h
  | [], _ :: _, H, _, _, _ => by simp only [VTs] at H
  | _ :: _, [], H, _, _, _ => by simp only [VTs] at H
  | v :: vs, x :: xs, H, 0, u, h => by
    simp only [VTs] at H
    simp at h
    subst h
    exact ⟨x, by simp, H.1⟩
  | v :: vs, x :: xs, H, i + 1, u, h => by
    simp only [VTs] at H
    simp at h
    obtain ⟨y, e, hy⟩ := VTs.get vs xs H.2 i u h
    exact ⟨y, by simpa using e, hy⟩

theorem VRs.append {c : Cx} : ∀ (vs : List V) (xs : List Value) (ws : List V) (ys : List Value), VRs c vs xs → VRs c ws ys → VRs c (vs ++ ws) (xs ++ ys)
  | [], [], _, _, _, K => by simpa using K
  | [], _ :: _, _, _, H, _ => by simp only [VRs] at H
  | _ :: _, [], _, _, H, _ => by simp only [VRs] at H
  | v :: vs, x :: xs, ws, ys, H, K => by
    simp only [VRs, List.cons_append] at H ⊢
    exact ⟨H.1, VRs.append vs xs ws ys H.2 K⟩

theorem VTs.append {h : Array Obj} {I : Nat → Prop} : ∀ (vs : List V) (xs : List Value) (ws : List V) (ys : List Value), VTs h I vs xs → VTs h I ws ys → VTs h I (vs ++ ws) (xs ++ ys)
  | [], [], _, _, _, K => by simpa using K
  | [], _ :: _, _, _, H, _ => by simp only [VTs] at H
  | _ :: _, [], _, _, H, _ => by simp only [VTs] at H
  | v :: vs, x :: xs, ws, ys, H, K => by
    simp only [VTs, List.cons_append] at H ⊢
    exact ⟨H.1, VTs.append vs xs ws ys H.2 K⟩

theorem VRs.take {c : Cx} : ∀ (vs : List V) (xs : List Value) (n : Nat), VRs c vs xs → VRs c (vs.take n) (xs.take n)
  | _, _, 0, _ => by simp [VRs]
  | [], [], n + 1, _ => by simp [VRs]
  | [], _ :: _, _ + 1, H => by simp only [VRs] at H
  | _ :: _, [], _ + 1, H => by simp only [VRs] at H
  | v :: vs, x :: xs, n + 1, H => by
    simp only [VRs, List.take_succ_cons] at H ⊢
    exact ⟨H.1, VRs.take vs xs n H.2⟩

theorem VRs.drop {c : Cx} : ∀ (vs : List V) (xs : List Value) (n : Nat), VRs c vs xs → VRs c (vs.drop n) (xs.drop n)
  | vs, xs, 0, H => by simpa using H
  | [], [], n + 1, _ => by simp [VRs]
  | [], _ :: _, _ + 1, H => by simp only [VRs] at H
  | _ :: _, [], _ + 1, H => by simp only [VRs] at H
  | v :: vs, x :: xs, n + 1, H => by
    simp only [VRs, List.drop_succ_cons] at H ⊢
    exact VRs.drop vs xs n H.2

theorem VTs.take {h : Array Obj} {I : Nat → Prop} : ∀ (vs : List V) (xs : List Value) (n : Nat), VTs h I vs xs → VTs h I (vs.take n) (xs.take n)
  | _, _, 0, _ => by simp [VTs]
  | [], [], n + 1, _ => by simp [VTs]
  | [], _ :: _, _ + 1, H => by simp only [VTs] at H
  | _ :: _, [], _ + 1, H => by simp only [VTs] at H
  | v :: vs, x :: xs, n + 1, H => by
    simp only [VTs, List.take_succ_cons] at H ⊢
    exact ⟨H.1, VTs.take vs xs n H.2⟩

theorem VTs.drop {h : Array Obj} {I : Nat → Prop} : ∀ (vs : List V) (xs : List Value) (n : Nat), VTs h I vs xs → VTs h I (vs.drop n) (xs.drop n)
  | vs, xs, 0, H => by simpa using H
  | [], [], n + 1, _ => by simp [VTs]
  | [], _ :: _, _ + 1, H => by simp only [VTs] at H
  | _ :: _, [], _ + 1, H => by simp only [VTs] at H
  | v :: vs, x :: xs, n + 1, H => by
    simp only [VTs, List.drop_succ_cons] at H ⊢
    exact VTs.drop vs xs n H.2

end Go.Pe

namespace Go.Pe

/-- The renaming with one place more. -/
def at_ (r : Nat → Nat) (i b : Nat) : Nat → Nat := fun j => if j = i then b else r j

theorem at_same (r : Nat → Nat) (i b : Nat) : at_ r i b i = b := by simp [at_]
theorem at_ne (r : Nat → Nat) (i b j : Nat) (h : j ≠ i) : at_ r i b j = r j := by simp [at_, h]

/-- Where a new block comes to stand. -/
def newMem (m : List Blk) (q : Option Nat) (b : Blk) : List Blk :=
  match q with
  | none => m ++ [b]
  | some i => m.set i b

theorem new_spec {s s' : St} {q : Option Nat} {b : Blk} {i : Nat} (h : s.new q b = some (i, s')) :
    s'.mem = newMem s.mem q b ∧ s'.lo = s.lo ∧ s'.mem[i]? = some b ∧ (s.mem.length ≤ i ∨ s.mem[i]? = some .vac) ∧ i < s'.mem.length ∧
    (∀ j, j ≠ i → s'.mem[j]? = s.mem[j]?) ∧ s.mem.length ≤ s'.mem.length := by
  unfold St.new at h
  split at h
  · simp only [Option.some.injEq, Prod.mk.injEq] at h
    obtain ⟨rfl, rfl⟩ := h
    refine ⟨rfl, rfl, by simp, .inl (Nat.le_refl _), by simp, fun j hj => ?_, by simp⟩
    by_cases hlt : j < s.mem.length
    · simp [List.getElem?_append_left hlt]
    · have h1 : s.mem.length < j := by omega
      rw [List.getElem?_eq_none (by simp; omega), List.getElem?_eq_none (by omega)]
  · rename_i i0
    split at h
    · rename_i hv
      simp only [Option.some.injEq, Prod.mk.injEq] at h
      obtain ⟨rfl, rfl⟩ := h
      have hlt : i0 < s.mem.length := (List.getElem?_eq_some_iff.1 hv).1
      exact ⟨rfl, rfl, by simp [hlt], .inr hv, by simp [hlt], fun j hj => by simp [List.getElem?_set_ne (Ne.symm hj)], by simp⟩
    · cases h

theorem BR.ext {c c' : Cx} (X : Ext c c') {i : Nat} {b : Blk} (hr : c'.r i = c.r i) (hh : c'.h[c.r i]? = c.h[c.r i]?) (H : BR c i b) : BR c' i b := by
  cases b with
  | cells cs =>
    obtain ⟨l, el, h1, h2⟩ := H
    exact ⟨l, el, by rw [hr, hh]; exact h1, VRs.ext X _ _ h2⟩
  | map es =>
    obtain ⟨l, ck, h1, h2⟩ := H
    exact ⟨l, ck, by rw [hr, hh]; exact h1, MR.ext X _ _ h2⟩
  | iter s p => simp only [BR] at H ⊢; rw [hr, hh]; exact H
  | vac => trivial

/-- A new block: a fresh one of the model's. -/
theorem new_ext {c : Cx} (K : Ok c) {m' : List Blk} {i : Nat} {b : Blk} (o : Obj)
    (hi : m'[i]? = some b) (hold : c.m.length ≤ i ∨ c.m[i]? = some .vac) (hne : ∀ j, j ≠ i → m'[j]? = c.m[j]?) (hlen : c.m.length ≤ m'.length) :
    Ext c ⟨c.h.push o, m', at_ c.r i c.h.size⟩ := by
  have hh : ∀ x, x < c.h.size → (c.h.push o)[x]? = c.h[x]? := fun x hx => by rw [Array.getElem?_push]; simp; omega
  refine ⟨by simp, fun x hx => ⟨hh x hx.1, by simp; have := hx.1; omega, fun j hj => ?_⟩, hlen, fun j => ?_⟩
  · by_cases e : j = i
    · subst e; simp only [at_same]; have := hx.1; omega
    · simp only [at_ne _ _ _ _ e]
      refine hx.2 j ⟨?_, ?_⟩
      · have h1 := hj.1
        simp only at h1
        have h2 := hne j e
        rw [List.getElem?_eq_getElem h1] at h2
        exact (List.getElem?_eq_some_iff.1 h2.symm).1
      · have := hj.2; simp only [hne j e] at this; exact this
  · unfold Keeps
    split
    · rename_i cs hcs
      have e : j ≠ i := by
        rintro rfl
        rcases hold with h | h
        · rw [List.getElem?_eq_none h] at hcs; cases hcs
        · rw [h] at hcs; cases hcs
      have hj : c.has j := ⟨(List.getElem?_eq_some_iff.1 hcs).1, by rw [hcs]; simp⟩
      refine ⟨cs, by simp only [hne j e]; exact hcs, Nat.le_refl _, fun _ => ⟨at_ne _ _ _ _ e, fun l el fr hl => ⟨l, el, fr, ?_, rfl⟩⟩⟩
      rw [← hh _ (K.lt j hj)]; exact hl
    · rename_i es hes
      have e : j ≠ i := by
        rintro rfl
        rcases hold with h | h
        · rw [List.getElem?_eq_none h] at hes; cases hes
        · rw [h] at hes; cases hes
      exact ⟨⟨es, by simp only [hne j e]; exact hes⟩, at_ne _ _ _ _ e⟩
    · rename_i s p hes
      have e : j ≠ i := by
        rintro rfl
        rcases hold with h | h
        · rw [List.getElem?_eq_none h] at hes; cases hes
        · rw [h] at hes; cases hes
      exact ⟨⟨s, p, by simp only [hne j e]; exact hes⟩, at_ne _ _ _ _ e⟩
    · trivial

theorem new_ok {c : Cx} (K : Ok c) {m' : List Blk} {i : Nat} {b : Blk} (o : Obj)
    (hi : m'[i]? = some b) (hold : c.m.length ≤ i ∨ c.m[i]? = some .vac) (hne : ∀ j, j ≠ i → m'[j]? = c.m[j]?) (hlen : c.m.length ≤ m'.length)
    (hb : BR ⟨c.h.push o, m', at_ c.r i c.h.size⟩ i b) : Ok ⟨c.h.push o, m', at_ c.r i c.h.size⟩ := by
  have X := new_ext K o hi hold hne hlen
  have hh : ∀ x, x < c.h.size → (c.h.push o)[x]? = c.h[x]? := fun x hx => by rw [Array.getElem?_push]; simp; omega
  have has : ∀ j, j ≠ i → Cx.has ⟨c.h.push o, m', at_ c.r i c.h.size⟩ j → c.has j := fun j e hj => by
    refine ⟨?_, ?_⟩
    · have h1 := hj.1
      simp only at h1
      have h2 := hne j e
      rw [List.getElem?_eq_getElem h1] at h2
      exact (List.getElem?_eq_some_iff.1 h2.symm).1
    · have := hj.2; simp only [hne j e] at this; exact this
  refine ⟨fun j bj hj => ?_, fun j k hj hk hjk => ?_, fun j hj => ?_⟩
  · by_cases e : j = i
    · subst e
      rw [hi] at hj
      cases hj
      exact hb
    · simp only [hne j e] at hj
      by_cases hv : bj = .vac
      · subst hv; trivial
      · have hjh : c.has j := ⟨(List.getElem?_eq_some_iff.1 hj).1, by rw [hj]; simpa using hv⟩
        exact (K.blk j bj hj).ext X (at_ne _ _ _ _ e) (hh _ (K.lt j hjh))
  · by_cases e : j = i
    · by_cases e' : k = i
      · rw [e, e']
      · subst e
        simp only [at_same, at_ne _ _ _ _ e'] at hjk
        have := K.lt k (has k e' hk)
        omega
    · by_cases e' : k = i
      · subst e'
        simp only [at_same, at_ne _ _ _ _ e] at hjk
        have := K.lt j (has j e hj)
        omega
      · simp only [at_ne _ _ _ _ e, at_ne _ _ _ _ e'] at hjk
        exact K.inj j k (has j e hj) (has k e' hk) hjk
  · by_cases e : j = i
    · subst e; simp [at_same]
    · simp only [at_ne _ _ _ _ e, Array.size_push]
      have := K.lt j (has j e hj)
      omega

/-- Block i is written in place: the model's block has as many cells as before. -/
theorem set_ext {c : Cx} (K : Ok c) {i : Nat} {b b' : Blk} {o o' : Obj} (hi : c.m[i]? = some b) (hv : b ≠ .vac) (ho : c.h[c.r i]? = some o)
    (hb : match b, b' with
      | .cells cs, .cells cs' => cs.length ≤ cs'.length ∧ ∀ l' el' fr', o' = .cells l' el' fr' → ∃ l el fr, o = .cells l el fr ∧ l.size = l'.size
      | .map _, .map _ => True
      | .iter _ _, .iter _ _ => True
      | _, _ => False) :
    Ext c ⟨c.h.setIfInBounds (c.r i) o', c.m.set i b', c.r⟩ := by
  have hhas : c.has i := ⟨(List.getElem?_eq_some_iff.1 hi).1, by rw [hi]; simpa using hv⟩
  have hlt := K.lt i hhas
  have hne : ∀ x, x ≠ c.r i → (c.h.setIfInBounds (c.r i) o')[x]? = c.h[x]? := fun x hx => Array.getElem?_setIfInBounds_ne (Ne.symm hx)
  have hv' : b' ≠ .vac := by rintro rfl; cases b <;> simp at hb
  have has : ∀ j, Cx.has ⟨c.h.setIfInBounds (c.r i) o', c.m.set i b', c.r⟩ j → c.has j := fun j hj => by
    refine ⟨by simpa using hj.1, ?_⟩
    by_cases e : j = i
    · subst e; exact hhas.2
    · have := hj.2
      simp only [List.getElem?_set_ne (Ne.symm e)] at this
      exact this
  refine ⟨by simp, fun x hx => ⟨hne x (Ne.symm (hx.2 i hhas)), by simpa using hx.1, fun j hj => hx.2 j (has j hj)⟩, by simp, fun j => ?_⟩
  by_cases e : j = i
  · subst e
    unfold Keeps
    rw [hi]
    have hset : (c.m.set j b')[j]? = some b' := by simp [hhas.1]
    cases b with
    | cells cs => cases b' with
      | cells cs' =>
        simp only at hb
        refine ⟨cs', hset, hb.1, fun _ => ⟨rfl, fun l' el fr hl => ?_⟩⟩
        simp only [Array.getElem?_setIfInBounds_self, hlt, if_true, Option.some.injEq] at hl
        obtain ⟨l, el', fr', h1, h2⟩ := hb.2 l' el fr hl
        exact ⟨l, el', fr', by rw [ho, h1], h2⟩
      | _ => simp at hb
    | map es => cases b' with
      | map es' => exact ⟨⟨es', hset⟩, rfl⟩
      | _ => simp at hb
    | iter s p => cases b' with
      | iter s' p' => exact ⟨⟨s', p', hset⟩, rfl⟩
      | _ => simp at hb
    | vac => simp at hb
  · unfold Keeps
    have hset : (c.m.set i b')[j]? = c.m[j]? := List.getElem?_set_ne (Ne.symm e)
    split
    · rename_i cs hcs
      have hj : c.has j := ⟨(List.getElem?_eq_some_iff.1 hcs).1, by rw [hcs]; simp⟩
      have hr : c.r j ≠ c.r i := fun h => e (K.inj j i hj hhas h)
      exact ⟨cs, by simp only [hset]; exact hcs, Nat.le_refl _, fun _ => ⟨rfl, fun l el fr hl => ⟨l, el, fr, by rw [← hne _ hr]; exact hl, rfl⟩⟩⟩
    · rename_i es hes; exact ⟨⟨es, by simp only [hset]; exact hes⟩, rfl⟩
    · rename_i s p hes; exact ⟨⟨s, p, by simp only [hset]; exact hes⟩, rfl⟩
    · trivial

theorem set_ok {c : Cx} (K : Ok c) {i : Nat} {b b' : Blk} {o o' : Obj} (hi : c.m[i]? = some b) (hv : b ≠ .vac) (ho : c.h[c.r i]? = some o)
    (hb : match b, b' with
      | .cells cs, .cells cs' => cs.length ≤ cs'.length ∧ ∀ l' el' fr', o' = .cells l' el' fr' → ∃ l el fr, o = .cells l el fr ∧ l.size = l'.size
      | .map _, .map _ => True
      | .iter _ _, .iter _ _ => True
      | _, _ => False)
    (hB : BR ⟨c.h.setIfInBounds (c.r i) o', c.m.set i b', c.r⟩ i b') : Ok ⟨c.h.setIfInBounds (c.r i) o', c.m.set i b', c.r⟩ := by
  have X := set_ext K hi hv ho hb
  have hhas : c.has i := ⟨(List.getElem?_eq_some_iff.1 hi).1, by rw [hi]; simpa using hv⟩
  have hlt := K.lt i hhas
  have has : ∀ j, Cx.has ⟨c.h.setIfInBounds (c.r i) o', c.m.set i b', c.r⟩ j → c.has j := fun j hj => by
    refine ⟨by simpa using hj.1, ?_⟩
    by_cases e : j = i
    · subst e; exact hhas.2
    · have := hj.2
      simp only [List.getElem?_set_ne (Ne.symm e)] at this
      exact this
  refine ⟨fun j bj hj => ?_, fun j k hj hk => K.inj j k (has j hj) (has k hk), fun j hj => by simpa using K.lt j (has j hj)⟩
  by_cases e : j = i
  · subst e
    simp only [List.getElem?_set_self hhas.1, Option.some.injEq] at hj
    subst hj
    exact hB
  · simp only [List.getElem?_set_ne (Ne.symm e)] at hj
    by_cases hvj : bj = .vac
    · subst hvj; trivial
    · have hjh : c.has j := ⟨(List.getElem?_eq_some_iff.1 hj).1, by rw [hj]; simpa using hvj⟩
      have hr : c.r j ≠ c.r i := fun h => e (K.inj j i hjh hhas h)
      exact (K.blk j bj hj).ext X rfl (Array.getElem?_setIfInBounds_ne (Ne.symm hr))

/-- Block i is lengthened, and lies in a fresh block of the model's from now on. -/
theorem grow_ext {c : Cx} (K : Ok c) {i : Nat} {cs cs' : List V} (o : Obj) (hi : c.m[i]? = some (.cells cs)) (hlt : cs.length < cs'.length) :
    Ext c ⟨c.h.push o, c.m.set i (.cells cs'), at_ c.r i c.h.size⟩ := by
  have hh : ∀ x, x < c.h.size → (c.h.push o)[x]? = c.h[x]? := fun x hx => by rw [Array.getElem?_push]; simp; omega
  have hil := (List.getElem?_eq_some_iff.1 hi).1
  refine ⟨by simp, fun x hx => ⟨hh x hx.1, by simp; have := hx.1; omega, fun j hj => ?_⟩, by simp, fun j => ?_⟩
  · by_cases e : j = i
    · subst e; simp only [at_same]; have := hx.1; omega
    · simp only [at_ne _ _ _ _ e]
      refine hx.2 j ⟨by simpa using hj.1, ?_⟩
      have := hj.2
      simp only [List.getElem?_set_ne (Ne.symm e)] at this
      exact this
  · by_cases e : j = i
    · subst e
      unfold Keeps
      rw [hi]
      exact ⟨cs', by simp [hil], by omega, fun h => by omega⟩
    · unfold Keeps
      have hset : (c.m.set i (.cells cs'))[j]? = c.m[j]? := List.getElem?_set_ne (Ne.symm e)
      split
      · rename_i ds hds
        have hj : c.has j := ⟨(List.getElem?_eq_some_iff.1 hds).1, by rw [hds]; simp⟩
        exact ⟨ds, by simp only [hset]; exact hds, Nat.le_refl _, fun _ => ⟨at_ne _ _ _ _ e, fun l el fr hl => ⟨l, el, fr, by rw [← hh _ (K.lt j hj)]; exact hl, rfl⟩⟩⟩
      · rename_i es hes; exact ⟨⟨es, by simp only [hset]; exact hes⟩, at_ne _ _ _ _ e⟩
      · rename_i s p hes; exact ⟨⟨s, p, by simp only [hset]; exact hes⟩, at_ne _ _ _ _ e⟩
      · trivial

theorem grow_ok {c : Cx} (K : Ok c) {i : Nat} {cs cs' : List V} (o : Obj) (hi : c.m[i]? = some (.cells cs)) (hlt : cs.length < cs'.length)
    (hB : BR ⟨c.h.push o, c.m.set i (.cells cs'), at_ c.r i c.h.size⟩ i (.cells cs')) : Ok ⟨c.h.push o, c.m.set i (.cells cs'), at_ c.r i c.h.size⟩ := by
  have X := grow_ext K o hi hlt
  have hil := (List.getElem?_eq_some_iff.1 hi).1
  have hh : ∀ x, x < c.h.size → (c.h.push o)[x]? = c.h[x]? := fun x hx => by rw [Array.getElem?_push]; simp; omega
  have has : ∀ j, j ≠ i → Cx.has ⟨c.h.push o, c.m.set i (.cells cs'), at_ c.r i c.h.size⟩ j → c.has j := fun j e hj =>
    ⟨by simpa using hj.1, by have := hj.2; simp only [List.getElem?_set_ne (Ne.symm e)] at this; exact this⟩
  refine ⟨fun j bj hj => ?_, fun j k hj hk hjk => ?_, fun j hj => ?_⟩
  · by_cases e : j = i
    · subst e
      simp only [List.getElem?_set_self hil, Option.some.injEq] at hj
      subst hj
      exact hB
    · simp only [List.getElem?_set_ne (Ne.symm e)] at hj
      by_cases hvj : bj = .vac
      · subst hvj; trivial
      · have hjh : c.has j := ⟨(List.getElem?_eq_some_iff.1 hj).1, by rw [hj]; simpa using hvj⟩
        exact (K.blk j bj hj).ext X (at_ne _ _ _ _ e) (hh _ (K.lt j hjh))
  · by_cases e : j = i
    · by_cases e' : k = i
      · rw [e, e']
      · subst e
        simp only [at_same, at_ne _ _ _ _ e'] at hjk
        have := K.lt k (has k e' hk)
        omega
    · by_cases e' : k = i
      · subst e'
        simp only [at_same, at_ne _ _ _ _ e] at hjk
        have := K.lt j (has j e hj)
        omega
      · simp only [at_ne _ _ _ _ e, at_ne _ _ _ _ e'] at hjk
        exact K.inj j k (has j e hj) (has k e' hk) hjk
  · by_cases e : j = i
    · subst e; simp [at_same]
    · simp only [at_ne _ _ _ _ e, Array.size_push]
      have := K.lt j (has j e hj)
      omega

end Go.Pe

namespace Go.Pe

def toTD : TypeDesc → TD
  | .bool => .bool
  | .int k => .int k
  | .string => .str
  | .pointer e => .ptr e
  | .slice e => .slice e
  | .array n e => .array n e
  | .map k e => .map k e
  | .struct fs => .struct (fs.toList.map fun f => (f.type, f.offset, f.name == "_"))
  | .func .. => .func
  | .interface ms => .iface (!ms.isEmpty)
  | _ => .other

def isAggV : Value → Bool
  | .agg _ => true
  | _ => false

def isStruct : TD → Bool
  | .struct _ => true
  | _ => false

/-- Are the types of all fields there? -/
def fieldsKnown (P : Program) : TypeDesc → Bool
  | .struct fs => fs.toList.all fun f => (P.info? f.type).isSome
  | _ => true

/-- The type table, out of the program's. -/
def mkT (P : Program) (t : Nat) : Option TI :=
  match P.info? t, P.underlying t with
  | some i, some d => match i.zero with
    | some z =>
      if fieldsKnown P d && z.cells.size = i.size && (agg? (toTD d) == isAggV z) && !(isStruct (toTD d) && P.stoodInHeld t)
      then some { d := toTD d, size := i.size, bytes := i.bytes, zero := z.cells.toList.map (ofV 1), comp := i.comparable, guard := P.eqGuardType P.depth t } else none
    | none => none
  | _, _ => none

/-- What the table says of a type is so. -/
structure TF (P : Program) (t : Nat) (ti : TI) (i : TypeInfo) (td : TypeDesc) (z : Value) : Prop where
  info : P.info? t = some i
  und : P.underlying t = some td
  zero : i.zero = some z
  d : ti.d = toTD td
  size : ti.size = i.size
  bytes : ti.bytes = i.bytes
  zs : ti.zero = z.cells.toList.map (ofV 1)
  comp : ti.comp = i.comparable
  guard : ti.guard = P.eqGuardType P.depth t
  zsize : z.cells.size = i.size
  agg : agg? ti.d = isAggV z
  fields : fieldsKnown P td = true
  stood : ∀ fs, ti.d = .struct fs → P.stoodInHeld t = false

theorem mkT_spec {P : Program} {t : Nat} {ti : TI} (h : mkT P t = some ti) : ∃ i d z, TF P t ti i d z := by
  unfold mkT at h
  split at h
  · rename_i i d hi hd
    split at h
    · rename_i z hz
      split at h
      · rename_i hc
        simp only [Option.some.injEq] at h
        subst h
        simp only [Bool.and_eq_true, decide_eq_true_eq, beq_iff_eq, Bool.not_eq_true', Bool.and_eq_false_iff] at hc
        refine ⟨i, d, z, hi, hd, hz, rfl, rfl, rfl, rfl, rfl, rfl, hc.1.1.2, hc.1.2, hc.1.1.1, fun fs hfs => ?_⟩
        rcases hc.2 with h2 | h2
        · simp only at hfs
          rw [hfs] at h2
          cases h2
        · exact h2
      · cases h
    · cases h
  · cases h

structure Fit (D : Dt) : Prop where
  t : ∀ t ti, D.T t = some ti → mkT D.P t = some ti

theorem Fit.tf {D : Dt} (F : Fit D) {t : Nat} {ti : TI} (h : D.T t = some ti) : ∃ i d z, TF D.P t ti i d z := mkT_spec (F.t t ti h)

theorem toTD_slice {d : TypeDesc} {e : Nat} (h : toTD d = .slice e) : d = .slice e := by cases d <;> simp_all [toTD]
theorem toTD_array {d : TypeDesc} {n e : Nat} (h : toTD d = .array n e) : d = .array n e := by cases d <;> simp_all [toTD]
theorem toTD_map {d : TypeDesc} {n e : Nat} (h : toTD d = .map n e) : d = .map n e := by cases d <;> simp_all [toTD]
theorem toTD_ptr {d : TypeDesc} {e : Nat} (h : toTD d = .ptr e) : d = .pointer e := by cases d <;> simp_all [toTD]
theorem toTD_int {d : TypeDesc} {k : IntKind} (h : toTD d = .int k) : d = .int k := by cases d <;> simp_all [toTD]
theorem toTD_bool {d : TypeDesc} (h : toTD d = .bool) : d = .bool := by cases d <;> simp_all [toTD]
theorem toTD_str {d : TypeDesc} (h : toTD d = .str) : d = .string := by cases d <;> simp_all [toTD]
theorem toTD_struct {d : TypeDesc} {fs : List (Nat × Nat × Bool)} (h : toTD d = .struct fs) :
    ∃ gs : Array Field, d = .struct gs ∧ fs = gs.toList.map fun f => (f.type, f.offset, f.name == "_") := by
  cases d <;> simp_all [toTD]
theorem toTD_func {d : TypeDesc} (h : toTD d = .func) : ∃ a b c, d = .func a b c := by cases d <;> simp_all [toTD]
theorem toTD_iface {d : TypeDesc} {b : Bool} (h : toTD d = .iface b) : ∃ ms, d = .interface ms ∧ b = !ms.isEmpty := by cases d <;> simp_all [toTD]

theorem sl_spec {D : Dt} (F : Fit D) {t e : Nat} {te : TI} (h : D.sl t = some (e, te)) : D.P.underlying t = some (.slice e) ∧ ∃ i d z, TF D.P e te i d z := by
  unfold Dt.sl at h
  split at h
  · rename_i ti hT
    obtain ⟨i, d, z, T⟩ := mkT_spec (F.t _ _ hT)
    split at h
    · rename_i e' hd
      split at h
      · rename_i te' hte
        simp only [Option.some.injEq, Prod.mk.injEq] at h
        obtain ⟨rfl, rfl⟩ := h
        rw [T.d] at hd
        obtain rfl := toTD_slice hd
        exact ⟨T.und, mkT_spec (F.t _ _ hte)⟩
      · cases h
    · cases h
  · cases h

theorem ar_spec {D : Dt} (F : Fit D) {t n e : Nat} {te : TI} (h : D.ar t = some (n, e, te)) : D.P.underlying t = some (.array n e) ∧ ∃ i d z, TF D.P e te i d z := by
  unfold Dt.ar at h
  split at h
  · rename_i ti hT
    obtain ⟨i, d, z, T⟩ := mkT_spec (F.t _ _ hT)
    split at h
    · rename_i e' hd
      split at h
      · rename_i te' hte
        simp only [Option.some.injEq, Prod.mk.injEq] at h
        obtain ⟨rfl, rfl, rfl⟩ := h
        rw [T.d] at hd
        obtain rfl := toTD_array hd
        exact ⟨T.und, mkT_spec (F.t _ _ hte)⟩
      · cases h
    · cases h
  · cases h

theorem mp_spec {D : Dt} (F : Fit D) {t k e : Nat} (h : D.mp t = some (k, e)) : D.P.underlying t = some (.map k e) := by
  unfold Dt.mp at h
  split at h
  · rename_i ti hT
    obtain ⟨i, d, z, T⟩ := mkT_spec (F.t _ _ hT)
    split at h
    · rename_i k' e' hd
      simp only [Option.some.injEq, Prod.mk.injEq] at h
      obtain ⟨rfl, rfl⟩ := h
      rw [T.d] at hd
      obtain rfl := toTD_map hd
      exact T.und
    · cases h
  · cases h

theorem isStr_spec {D : Dt} (F : Fit D) {t : Nat} (h : D.isStr t = true) : D.P.underlying t = some .string := by
  unfold Dt.isStr at h
  split at h
  · rename_i ti hT
    obtain ⟨i, d, z, T⟩ := mkT_spec (F.t _ _ hT)
    split at h
    · rename_i hd
      rw [T.d] at hd
      obtain rfl := toTD_str hd
      exact T.und
    · cases h
  · cases h

theorem fld_spec {D : Dt} (F : Fit D) {t f ft off : Nat} (h : D.fld t f = some (ft, off)) :
    ∃ gs g, D.P.underlying t = some (.struct gs) ∧ gs[f]? = some g ∧ g.type = ft ∧ g.offset = off := by
  unfold Dt.fld at h
  split at h
  · rename_i ti hT
    obtain ⟨i, d, z, T⟩ := mkT_spec (F.t _ _ hT)
    split at h
    · rename_i fs hd
      split at h
      · rename_i ft' off' b hf
        simp only [Option.some.injEq, Prod.mk.injEq] at h
        obtain ⟨rfl, rfl⟩ := h
        rw [T.d] at hd
        obtain ⟨gs, rfl, rfl⟩ := toTD_struct hd
        simp only [List.getElem?_map, Option.map_eq_some_iff] at hf
        obtain ⟨g, hg1, hg2⟩ := hf
        simp only [Prod.mk.injEq] at hg2
        exact ⟨gs, g, T.und, by rw [← Array.getElem?_toList]; exact hg1, hg2.1, hg2.2.1⟩
      · cases h
    · cases h
  · cases h

section runs
variable {P : Program} {t : Nat} {ti : TI} {i : TypeInfo} {d : TypeDesc} {z : Value} (H : TF P t ti i d z) (w : World)
include H
theorem TF.run_und : (underlying t).run P w = .ok d w := run_underlying H.und w
theorem TF.run_info : (typeInfo t).run P w = .ok i w := by simp [typeInfo, H.info]
theorem TF.run_size : (sizeOf t).run P w = .ok ti.size w := by simp [sizeOf, H.run_info w, H.size]
theorem TF.run_zero : (zeroValue t).run P w = .ok z w := by simp [zeroValue, H.run_info w, H.zero]
theorem TF.run_agg : (isAgg t).run P w = .ok (agg? ti.d) w := by
  simp only [isAgg, Sem.run_bind, H.run_und w, Result.andThen_ok, H.d]
  cases d <;> rfl
end runs

mutual
theorem VT.ofV {h : Array Obj} {I : Nat → Prop} : ∀ (n : Nat) (x : Value), VT h I (ofV n x) x
  | n, .bool _ | n, .int _ _ | n, .pointer none | n, .map none | n, .nilFunc | n, .nilIface | n, .slice none 0 0 => by
    simp only [Pe.ofV, VT]
  | n, .string s => by simp [Pe.ofV, VT]
  | n + 1, .agg cs => by
    simp only [Pe.ofV, VT]
    exact ⟨cs, rfl, VTs.ofV n cs.toList⟩
  | n + 1, .tuple cs => by
    simp only [Pe.ofV, VT]
    exact ⟨cs, rfl, VTs.ofV n cs.toList⟩
  | 0, .agg _ | 0, .tuple _ => by simp only [Pe.ofV, VT]
  | _, .float .. | _, .complex .. | _, .pointer (some _) | _, .slice (some _) _ _ | _, .slice none (_ + 1) _ | _, .slice none 0 (_ + 1) | _, .map (some _) | _, .chan _ | _, .func .. | _, .iface .. => by
    simp only [Pe.ofV, VT]
theorem VTs.ofV {h : Array Obj} {I : Nat → Prop} : ∀ (n : Nat) (xs : List Value), VTs h I (xs.map (ofV n)) xs
  | _, [] => by simp only [List.map_nil, VTs]
  | n, x :: xs => by
    simp only [List.map_cons, VTs]
    exact ⟨VT.ofV n x, VTs.ofV n xs⟩
end

/-- The tables of the program's are there. -/
def GOk (D : Dt) (c : Cx) : Prop :=
  ∀ g cs, D.G g = some cs → c.I g ∧ ∃ l e fr, c.h[g]? = some (.cells l e fr) ∧ VTs c.h c.I cs (l.toList.take cs.length)

theorem GOk.ext {D : Dt} {c c' : Cx} (X : Ext c c') (H : GOk D c) : GOk D c' := fun g cs hg => by
  obtain ⟨h1, l, e, fr, h2, h3⟩ := H g cs hg
  exact ⟨(X.imm g h1).2, l, e, fr, (X.imm g h1).1.trans h2, VTs.mono (fun b hb => (X.imm b hb).1) (fun b hb => (X.imm b hb).2) _ _ h3⟩

def EnvR (c : Cx) (ρ : Env) (tmps : Array Value) : Prop := ∀ t, VR c (ρ t) (tmps.getD t undef)

theorem EnvR.ext {c c' : Cx} (X : Ext c c') {ρ : Env} {tmps : Array Value} (H : EnvR c ρ tmps) : EnvR c' ρ tmps := fun t => VR.ext X _ _ (H t)

theorem EnvR.eval {D : Dt} {c : Cx} {ρ : Env} {a : Act} (G : GOk D c) (H : EnvR c ρ a.tmps) (x : Operand) : VR c (ρ.ev D x) (a.eval x) := by
  cases x with
  | tmp t => exact H t
  | const v => exact VR.ofT _ _ (VT.ofV 2 v)
  | global g =>
    simp only [Env.ev, Act.eval]
    cases hg : D.G g with
    | none => simp only [VR, VT]
    | some cs =>
      obtain ⟨h1, l, e, fr, h2, h3⟩ := G g cs hg
      simp only [VR, VT]
      exact ⟨g, 0, l, e, fr, by simp, h1, h2, by simpa using h3⟩
  | func f =>
    simp only [Env.ev, Act.eval, VR]
    exact ⟨#[], rfl, by simp only [VRs]⟩

theorem EnvR.put {c : Cx} {ρ : Env} {a : Act} (H : EnvR c ρ a.tmps) {d : Option Tmp} {v : V} {x : Value} (hd : ∀ t, d = some t → t < a.tmps.size) (h : VR c v x) :
    EnvR c (ρ.put d v) (a.put d x).tmps := by
  cases d with
  | none => exact H
  | some d =>
    have hlt := hd d rfl
    intro t
    simp only [Env.put, Act.put]
    by_cases e : t = d
    · subst e
      simpa [hlt] using h
    · simp only [e, if_false]
      have := H t
      simp only [Array.getD_eq_getD_getElem?] at this ⊢
      rw [Array.getElem?_setIfInBounds_ne (fun h => e h.symm)]
      exact this

/-! ### reading -/

theorem cell_of {h : Array Obj} {b o : Nat} {l : Array Value} {e : TypeId} {fr : Nat × Nat} (w : World) (hw : w.heap = h) (hb : h[b]? = some (.cells l e fr)) :
    w.cell? ⟨b, o, none⟩ = l[o]? := by simp [World.cell?, hw, hb]

theorem add_none (b o n : Nat) : (⟨b, o, none⟩ : Addr).add n = ⟨b, o + n, none⟩ := Addr.add_lit b o n

theorem sub_spec {cs l : List V} {off n : Nat} (h : sub cs off n = some l) : off + n ≤ cs.length ∧ l = (cs.drop off).take n ∧ l.length = n := by
  unfold sub at h
  split at h
  · simp only [Option.some.injEq] at h
    subst h
    refine ⟨by assumption, rfl, by simp; omega⟩
  · cases h

/-- Cells that are read: of a block's list. -/
theorem run_loadVar_of {P : Program} {t : Nat} {ti : TI} {i : TypeInfo} {d : TypeDesc} {z : Value} (T : TF P t ti i d z) {w : World} {b o : Nat}
    {l : Array Value} {el : TypeId} {fr : Nat × Nat} (hb : w.heap[b]? = some (.cells l el fr)) {R : V → Value → Prop} {Rs : List V → List Value → Prop}
    (hlen : ∀ vs xs, Rs vs xs → vs.length = xs.length)
    (hget : ∀ vs xs, Rs vs xs → ∀ (i : Nat) (v : V), vs[i]? = some v → ∃ x, xs[i]? = some x ∧ R v x)
    (htake : ∀ vs xs n, Rs vs xs → Rs (vs.take n) (xs.take n)) (hdrop : ∀ vs xs n, Rs vs xs → Rs (vs.drop n) (xs.drop n))
    (hagg : ∀ vs (xs : Array Value), Rs vs xs.toList → R (.agg vs) (.agg xs))
    {cs : List V} {off : Nat} (hR : Rs cs ((l.toList.drop o).take cs.length)) {v : V} (h : readAt ti cs off = some v) :
    ∃ x, (loadVar t ⟨b, o + off, none⟩).run P w = .ok x w ∧ R v x := by
  have hl := hlen _ _ hR
  unfold readAt at h
  by_cases ha : agg? ti.d = true
  · simp only [ha, if_true] at h
    cases hs : sub cs off ti.size with
    | none => simp [hs] at h
    | some ds =>
      simp only [hs, Option.map_some, Option.some.injEq] at h
      subst h
      obtain ⟨h1, h2, h3⟩ := sub_spec hs
      have hR2 := htake _ _ ti.size (hdrop _ _ off hR)
      rw [← h2] at hR2
      generalize hx : List.take ti.size (List.drop off (List.take cs.length (List.drop o l.toList))) = xs at hR2
      have hxl : xs.length = ti.size := by rw [← hlen _ _ hR2, h3]
      refine ⟨.agg xs.toArray, ?_, hagg _ _ (by simpa using hR2)⟩
      simp only [loadVar, Sem.run_bind, T.run_agg w, Result.andThen_ok, ha, if_true, T.run_size w]
      have := run_loadCells_list (P := P) w ⟨b, o + off, none⟩ xs (fun j v hj => by
        rw [add_none, cell_of w rfl hb]
        subst hx
        simp only [List.getElem?_take, List.getElem?_drop] at hj
        split at hj
        · split at hj
          · rw [← Array.getElem?_toList]; rw [← hj]; congr 1; omega
          · cases hj
        · cases hj)
      rw [← hxl, this]
      simp
  · simp only [ha] at h
    obtain ⟨x, hx, hv⟩ := hget _ _ hR off v (by simpa using h)
    refine ⟨x, ?_, hv⟩
    simp only [loadVar, Sem.run_bind, T.run_agg w, Result.andThen_ok, ha]
    have hc : w.cell? ⟨b, o + off, none⟩ = some x := by
      rw [cell_of w rfl hb]
      simp only [List.getElem?_take, List.getElem?_drop] at hx
      split at hx
      · rw [← Array.getElem?_toList]; exact hx
      · cases hx
    simp [hc]

theorem loadVar_pt {D : Dt} {t : Nat} {ti : TI} (F : Fit D) (hT : D.T t = some ti) {c : Cx} {w : World} (hw : w.heap = c.h)
    {cs : List V} {off : Nat} {x : Value} (hx : VT c.h c.I (.pt cs off) x) {v : V} (h : readAt ti cs off = some v) :
    ∃ y, (Instr.loadAt t x).run D.P w = .ok y w ∧ VR c v y := by
  obtain ⟨i, d, z, T⟩ := F.tf hT
  simp only [VT] at hx
  obtain ⟨b, o, l, e, fr, rfl, _, h3, h4⟩ := hx
  obtain ⟨y, h5, h6⟩ := run_loadVar_of T (w := w) (by rw [hw]; exact h3) (R := VT c.h c.I) (Rs := VTs c.h c.I) VTs.len VTs.get VTs.take VTs.drop
    (fun vs xs hh => by simp only [VT]; exact ⟨xs, rfl, hh⟩) h4 h
  exact ⟨y, by simp [Instr.loadAt, Instr.sureAddr, h5], VR.ofT _ _ h6⟩

theorem live_spec {s : St} {i e : Nat} {cs : List V} (h : s.live i e = some cs) : s.mem[i]? = some (.cells cs) ∧ cs.length = e := by
  unfold St.live at h
  split at h
  · split at h
    · simp only [Option.some.injEq] at h; subst h; exact ⟨by assumption, by assumption⟩
    · cases h
  · cases h

theorem loadT_spec {D : Dt} {t : Nat} (F : Fit D) {c : Cx} (K : Ok c) {s : St} (hs : s.mem = c.m) {w : World} (hw : w.heap = c.h) {p : V} {x : Value} (hx : VR c p x) {v : V}
    (h : loadT D s t p = some v) : ∃ y, (Instr.loadAt t x).run D.P w = .ok y w ∧ VR c v y := by
  unfold loadT at h
  split at h
  · rename_i i e off
    split at h
    · rename_i ti hT
      split at h
      · rename_i cs hl
        obtain ⟨i', d, z, T⟩ := F.tf hT
        obtain ⟨h1, h2⟩ := live_spec hl
        rw [hs] at h1
        obtain ⟨l, el, h3, h4⟩ := K.blk i _ h1
        simp only [VR, PR, h1] at hx
        obtain rfl := hx.2.2 h2
        obtain ⟨y, h5, h6⟩ := run_loadVar_of T (w := w) (b := c.r i) (o := 0) (by rw [hw]; exact h3) (R := VR c) (Rs := VRs c) VRs.len VRs.get VRs.take VRs.drop
          (fun vs xs hh => by simp only [VR]; exact ⟨xs, rfl, hh⟩) (by simpa using h4) h
        rw [Nat.zero_add] at h5
        exact ⟨y, by simp [Instr.loadAt, Instr.sureAddr, h5], h6⟩
      · cases h
    · cases h
  · rename_i cs off
    split at h
    · rename_i ti hT
      exact loadVar_pt F hT hw (by simpa only [VR] using hx) h
    · cases h
  · cases h

theorem partT_spec {D : Dt} (F : Fit D) {t : Nat} {cs : List V} {off : Nat} {v : V} (h : partT D t cs off = some v) {c : Cx} {xs : Array Value} (hx : VRs c cs xs.toList) (w : World) :
    ∃ y, (part t xs off).run D.P w = .ok y w ∧ VR c v y := by
  unfold partT at h
  split at h
  · rename_i ti hT
    obtain ⟨i, d, z, T⟩ := F.tf hT
    have key : ∀ ds, sub cs off ti.size = some ds → VR c (.agg ds) (.agg (xs.extract off (off + ti.size))) := fun ds hs => by
      obtain ⟨h1, h2, h3⟩ := sub_spec hs
      simp only [VR]
      refine ⟨_, rfl, ?_⟩
      rw [h2]
      have := VRs.take _ _ ti.size (VRs.drop _ _ off hx)
      simpa [Array.toList_extract, List.extract_eq_take_drop] using this
    have key2 : agg? ti.d = false → cs[off]? = some v → ∃ y, (part t xs off).run D.P w = .ok y w ∧ VR c v y := fun ha hg => by
      obtain ⟨y, hy, hv⟩ := VRs.get _ _ hx off v hg
      refine ⟨y, ?_, hv⟩
      have hy' : xs[off]? = some y := by rw [← Array.getElem?_toList]; exact hy
      simp [part, T.run_agg w, ha, hy']
    split at h
    · rename_i fs hd
      cases hs : sub cs off ti.size with
      | none => simp [hs] at h
      | some ds =>
        simp only [hs, Option.map_some, Option.some.injEq] at h
        subst h
        exact ⟨_, by simp [part, T.run_agg w, T.run_size w, agg?, hd], key ds hs⟩
    · rename_i n e hd
      cases hs : sub cs off ti.size with
      | none => simp [hs] at h
      | some ds =>
        simp only [hs, Option.map_some, Option.some.injEq] at h
        subst h
        exact ⟨_, by simp [part, T.run_agg w, T.run_size w, agg?, hd], key ds hs⟩
    · rename_i hn1 hn2
      refine key2 ?_ h
      cases hd : ti.d <;> simp_all [agg?]
  · cases h

end Go.Pe

namespace Go.Pe

/-- What an operation leaves behind. -/
def Aft (c : Cx) (w : World) (s' : St) (v : V) (x : Value) (w' : World) : Prop :=
  ∃ r', Ext c ⟨w'.heap, s'.mem, r'⟩ ∧ Ok ⟨w'.heap, s'.mem, r'⟩ ∧ VR ⟨w'.heap, s'.mem, r'⟩ v x ∧ w'.tape = w.tape ∧ w'.os = w.os ∧ w'.output = w.output

theorem Aft.same {c : Cx} (K : Ok c) {w : World} (hw : w.heap = c.h) {s : St} (hs : s.mem = c.m) {v : V} {x : Value} (h : VR c v x) : Aft c w s v x w := by
  refine ⟨c.r, ?_⟩
  have : (⟨w.heap, s.mem, c.r⟩ : Cx) = c := by rw [hw, hs]
  rw [this]
  exact ⟨Ext.refl c, K, h, rfl, rfl, rfl⟩

theorem over_len {cs new : List V} {off : Nat} (h : off + new.length ≤ cs.length) : (over cs off new).length = cs.length := by
  simp [over]; omega

theorem VRs.over {c : Cx} {cs new : List V} {off : Nat} {l ys : List Value} (h : VRs c cs (l.take cs.length)) (hn : VRs c new ys) (hl : off + new.length ≤ cs.length) :
    VRs c (over cs off new) ((l.take off ++ ys ++ l.drop (off + ys.length)).take (over cs off new).length) := by
  have e := VRs.len _ _ hn
  have e2 := VRs.len _ _ h
  simp at e2
  have h1 := VRs.append _ _ _ _ (VRs.append _ _ _ _ (VRs.take _ _ off h) hn) (VRs.drop _ _ (off + new.length) h)
  rw [over_len hl]
  unfold Pe.over
  refine (congrArg (VRs c _) ?_).mp h1
  rw [List.take_take, Nat.min_eq_left (by omega), List.drop_take, ← e]
  rw [List.take_append, List.take_append, List.take_of_length_le (l := List.take off l) (by simp; omega), List.take_of_length_le (l := ys) (by simp; omega)]
  congr 2
  simp
  omega

theorem VRs.mem {c : Cx} : ∀ (vs : List V) (xs : List Value), VRs c vs xs → ∀ x ∈ xs, ∃ v ∈ vs, VR c v x
  | [], [], _, x, h => by simp at h
  | [], _ :: _, H, _, _ => by simp only [VRs] at H
  | _ :: _, [], H, _, _ => by simp only [VRs] at H
  | v :: vs, y :: xs, H, x, h => by
    simp only [VRs] at H
    rcases List.mem_cons.1 h with rfl | h
    · exact ⟨v, by simp, H.1⟩
    · obtain ⟨u, hu, hr⟩ := VRs.mem vs xs H.2 x h
      exact ⟨u, by simp [hu], hr⟩

theorem one_cell {c : Cx} {v : V} {x : Value} (h : VR c v x) (ho : v.one = true) : x.oneCell' = true := by
  cases v <;> simp only [V.one, Bool.false_eq_true] at ho <;> simp only [VR, VT, PR, SR] at h
  all_goals first
    | (subst h; rfl)
    | (obtain ⟨_, _, _, _, _, rfl, _⟩ := h; rfl)
    | (obtain ⟨_, _, rfl, _⟩ := h; rfl)
    | (obtain ⟨_, rfl, _⟩ := h; rfl)
    | (obtain ⟨_, rfl⟩ := h; rfl)
    | (split at h <;> first | exact h.elim | (obtain ⟨⟨_, rfl⟩, _⟩ := h; rfl) | (obtain ⟨⟨_, _, rfl, _⟩, _⟩ := h; rfl))

theorem VR.cells {c : Cx} {v : V} {x : Value} (h : VR c v x) (ha : v ≠ .any) : VRs c v.cells x.cells.toList := by
  have single : ∀ (u : V) (y : Value), VR c u y → (∀ cs, y ≠ .agg cs) → VRs c [u] y.cells.toList := fun u y hu hy => by
    cases y <;> first | (simp only [Value.cells, VRs]; exact ⟨hu, trivial⟩) | exact absurd rfl (hy _)
  cases v
  case any => exact absurd rfl ha
  case agg cs =>
    simp only [VR] at h
    obtain ⟨xs, rfl, hx⟩ := h
    exact hx
  case tup cs =>
    refine single _ _ h ?_
    simp only [VR] at h
    obtain ⟨xs, rfl, hx⟩ := h
    intro cs hcs; cases hcs
  all_goals
    refine single _ _ h ?_
    intro cs hcs
    have := one_cell h rfl
    rw [hcs] at this
    cases this

section
variable {D : Dt} (F : Fit D) {c : Cx} (K : Ok c) {s : St} (hs : s.mem = c.m) {w : World} (hw : w.heap = c.h)

/-- A new block. -/
theorem new_aft (K : Ok c) (hs : s.mem = c.m) (hw : w.heap = c.h) {q : Option Nat} {b : Blk} {i : Nat} {s' : St} (h : s.new q b = some (i, s')) (o : Obj)
    (hb : BR ⟨c.h.push o, s'.mem, at_ c.r i c.h.size⟩ i b) :
    Ext c ⟨(w.alloc o).heap, s'.mem, at_ c.r i c.h.size⟩ ∧ Ok ⟨(w.alloc o).heap, s'.mem, at_ c.r i c.h.size⟩ := by
  obtain ⟨h1, h2, h3, h4, h5, h6, h7⟩ := new_spec h
  rw [hs] at h4 h6 h7
  have e : (w.alloc o).heap = c.h.push o := by simp [World.alloc, hw]
  rw [e]
  exact ⟨new_ext K o h3 h4 h6 h7, new_ok K o h3 h4 h6 h7 hb⟩

theorem box_spec (K : Ok c) (hs : s.mem = c.m) (hw : w.heap = c.h) {q : Option Nat} {cs : List V} {xs : Array Value} (hx : VRs c cs xs.toList) (t : TypeId) {i : Nat} {s' : St}
    (h : s.new q (.cells cs) = some (i, s')) :
    Aft c w s' (.pb i cs.length 0) (.pointer (some ⟨w.heap.size, 0, none⟩)) (w.alloc (.cells xs t)) := by
  obtain ⟨h1, h2, h3, h4, h5, h6, h7⟩ := new_spec h
  rw [hs] at h4 h6 h7
  have X := new_ext K (.cells xs t) h3 h4 h6 h7
  obtain ⟨X', K'⟩ := new_aft K hs hw h (.cells xs t) ⟨xs, t, by simp [at_same], by
    rw [List.take_of_length_le (by rw [VRs.len _ _ hx]; exact Nat.le_refl _)]
    exact VRs.ext X _ _ hx⟩
  refine ⟨_, X', K', ?_, rfl, rfl, rfl⟩
  simp only [VR, PR, h3]
  exact ⟨⟨_, rfl⟩, Nat.le_refl _, fun _ => by simp [at_same, hw]⟩

theorem storeT_spec (F : Fit D) (K : Ok c) (hs : s.mem = c.m) (hw : w.heap = c.h) {t : Nat} {p v : V} {x y : Value} (hp : VR c p x) (hv : VR c v y) {s' : St}
    (h : storeT D s t p v = some s') : ∃ w', (Instr.storeAt t x y).run D.P w = .ok () w' ∧ Aft c w s' (.tup []) undef w' := by
  unfold storeT at h
  split at h
  · rename_i i e off ti hT
    split at h
    · rename_i cs hl
      split at h
      · rename_i hc
        simp only [Option.some.injEq] at h
        subst h
        simp only [Bool.and_eq_true, decide_eq_true_eq, List.all_eq_true] at hc
        obtain ⟨⟨hc1, hc2⟩, hc3⟩ := hc
        obtain ⟨i', d, z, T⟩ := F.tf hT
        obtain ⟨h1, h2⟩ := live_spec hl
        rw [hs] at h1
        obtain ⟨l, el, h3, h4⟩ := K.blk i _ h1
        simp only [VR, PR, h1] at hp
        obtain rfl := hp.2.2 h2
        have hany : v ≠ .any := by
          rintro rfl
          have := hc3 .any (by simp [V.cells])
          cases this
        have hcl := VR.cells hv hany
        have hlen := VRs.len _ _ hcl
        have hcs := VRs.len _ _ h4
        simp at hcs
        have hone : ∀ u ∈ y.cells.toList, u.oneCell' = true := fun u hu => by
          obtain ⟨v', hv', hr⟩ := VRs.mem _ _ hcl u hu
          exact one_cell hr (hc3 v' hv')
        have hsz : y.cells.size = ti.size := by rw [← hc1, hlen]; simp
        have hrun := run_storeCells_at (P := D.P) (c.r i) off el y.cells.toList 0 l w (by rw [hw]; exact h3) (by rw [← hlen]; omega) hone
        have hset : (w.setRow (c.r i) (l.toList.take (off + 0) ++ y.cells.toList ++ l.toList.drop (off + 0 + y.cells.toList.length)).toArray).heap =
            c.h.setIfInBounds (c.r i) (.cells (l.toList.take off ++ y.cells.toList ++ l.toList.drop (off + y.cells.toList.length)).toArray el (0, 0)) := by
          have hlt := (Array.getElem?_eq_some_iff.1 h3).1
          apply Array.ext_getElem?
          intro k
          by_cases e : k = c.r i
          · subst e
            rw [setRow_heap w _ l _ el (0, 0) (by rw [hw]; exact h3)]
            simp [hlt]
          · simp only [World.setRow, Array.getElem?_modify, hw]
            rw [if_neg (fun h => e h.symm), Array.getElem?_setIfInBounds_ne (fun h => e h.symm)]
        refine ⟨_, by simp only [Instr.storeAt, Instr.sureAddr, Sem.run_bind, Sem.run_pure, Result.andThen_ok, storeVar, T.run_size w]; rw [if_neg (by simpa using hsz)]; exact hrun, c.r, ?_⟩
        have hfit : off + v.cells.length ≤ cs.length := by rw [hc1]; exact hc2
        have hb : (cs.length ≤ (over cs off v.cells).length ∧ ∀ l' el' fr', Obj.cells (l.toList.take off ++ y.cells.toList ++ l.toList.drop (off + y.cells.toList.length)).toArray el (0, 0) = .cells l' el' fr' →
            ∃ l2 el2 fr2, Obj.cells l el (0, 0) = .cells l2 el2 fr2 ∧ l2.size = l'.size) := by
          refine ⟨by rw [over_len hfit]; exact Nat.le_refl _, fun l' el' fr' e => ⟨l, el, _, rfl, ?_⟩⟩
          cases e
          simp at hlen ⊢
          omega
        have X := set_ext K (b := .cells cs) (b' := .cells (over cs off v.cells)) h1 (by simp) h3 hb
        have hB : BR ⟨c.h.setIfInBounds (c.r i) (.cells (l.toList.take off ++ y.cells.toList ++ l.toList.drop (off + y.cells.toList.length)).toArray el (0, 0)), c.m.set i (.cells (over cs off v.cells)), c.r⟩ i (.cells (over cs off v.cells)) := by
          refine ⟨(l.toList.take off ++ y.cells.toList ++ l.toList.drop (off + y.cells.toList.length)).toArray, el, ?_, ?_⟩
          · exact Array.getElem?_setIfInBounds_self_of_lt (Array.getElem?_eq_some_iff.1 h3).1
          · exact VRs.ext X _ _ (VRs.over h4 hcl hfit)
        have K' := set_ok K (b := .cells cs) (b' := .cells (over cs off v.cells)) h1 (by simp) h3 hb hB
        rw [hset]
        have hm : (s.put i (.cells (over cs off v.cells)) v.cells).mem = c.m.set i (.cells (over cs off v.cells)) := by simp [St.put, hs]
        rw [hm]
        refine ⟨X, K', ?_, rfl, rfl, rfl⟩
        simp only [VR]
        exact ⟨#[], rfl, by simp only [VRs]⟩
      · cases h
    · cases h
  · cases h

end
end Go.Pe

namespace Go.Pe

theorem foldl_set (off : Nat) : ∀ (ys : List Value) (k : Nat) (a : Array Value), off + k + ys.length ≤ a.size →
    ((ys.zipIdx k).foldl (fun cs (p : Value × Nat) => cs.setIfInBounds (off + p.2) p.1) a).toList = a.toList.take (off + k) ++ ys ++ a.toList.drop (off + k + ys.length)
  | [], k, a, _ => by simp
  | y :: ys, k, a, h => by
    simp only [List.zipIdx_cons, List.foldl_cons]
    rw [foldl_set off ys (k + 1) _ (by simp at h ⊢; omega)]
    have e := list_seg_step a.toList (off + k) y ys (by simp at h ⊢; omega)
    simpa [Array.toList_setIfInBounds, Nat.add_assoc] using e

theorem fill_spec {c : Cx} {place : Nat → Option (Nat × Nat)} {place' : Nat → Option (Nat × Nat)} (hp : ∀ i p, place i = some p → place' i = some p) :
    ∀ (ps : List (Nat × V)) (qs : List (Nat × Value)) (cs : List V) (xs : Array Value) (cs' : List V),
      ps.map (·.1) = qs.map (·.1) → VRs c (ps.map (·.2)) (qs.map (·.2)) → VRs c cs xs.toList → fillT place cs ps = some cs' →
      ∃ ys, Instr.fill place' xs qs = some ys ∧ VRs c cs' ys.toList
  | [], [], cs, xs, cs', _, _, hx, h => by
    simp only [fillT, Option.some.injEq] at h
    subst h
    exact ⟨xs, rfl, hx⟩
  | [], _ :: _, _, _, _, h, _, _, _ => by simp at h
  | _ :: _, [], _, _, _, h, _, _, _ => by simp at h
  | (i, v) :: ps, (j, y) :: qs, cs, xs, cs', h1, h2, hx, h => by
    simp only [List.map_cons, List.cons.injEq] at h1
    obtain ⟨rfl, h1⟩ := h1
    simp only [List.map_cons, VRs] at h2
    simp only [fillT] at h
    split at h
    · cases h
    · rename_i off size hpl
      split at h
      · rename_i hc
        simp only [Bool.and_eq_true, decide_eq_true_eq, Bool.not_eq_true'] at hc
        obtain ⟨⟨hc1, hc2⟩, hc3⟩ := hc
        have hany : v ≠ .any := by rintro rfl; cases hc3
        have hcl := VR.cells h2.1 hany
        have hlen := VRs.len _ _ hcl
        have hxl := VRs.len _ _ hx
        simp at hlen hxl
        have hov : VRs c (over cs off v.cells) (y.cells.zipIdx.foldl (fun cs (p : Value × Nat) => cs.setIfInBounds (off + p.2) p.1) xs).toList := by
          rw [← Array.foldl_toList, Array.toList_zipIdx, foldl_set off y.cells.toList 0 xs (by simp; omega)]
          have := VRs.over (cs := cs) (off := off) (l := xs.toList) (by rw [List.take_of_length_le (by simp; omega)]; exact hx) hcl (by omega)
          refine (congrArg (VRs c _) ?_).mp this
          rw [List.take_of_length_le]
          · simp
          · rw [over_len (by omega)]; simp; omega
        obtain ⟨ys, hy1, hy2⟩ := fill_spec hp ps qs _ _ cs' h1 h2.2 hov h
        refine ⟨ys, ?_, hy2⟩
        simp only [Instr.fill, hp _ _ hpl]
        rw [if_neg (by simp; omega)]
        exact hy1
      · cases h

theorem run_mapM_size {P : Program} (w : World) : ∀ (fs : List Field), (fs.all fun f => (P.info? f.type).isSome) = true →
    (fs.mapM fun f => (do pure (f.offset, ← sizeOf f.type) : Sem (Nat × Nat))).run P w = .ok (fs.map fun f => (f.offset, P.cellsOf f.type)) w
  | [], _ => by simp
  | f :: fs, h => by
    simp only [List.all_cons, Bool.and_eq_true] at h
    obtain ⟨i, hi⟩ := Option.isSome_iff_exists.1 h.1
    have hs : (sizeOf f.type).run P w = .ok i.size w := by simp [sizeOf, typeInfo, hi]
    simp only [List.mapM_cons, Sem.run_bind, hs, Result.andThen_ok, Sem.run_pure, run_mapM_size w fs h.2, List.map_cons, Program.cellsOf, hi, Option.map_some, Option.getD_some]

theorem map_fst {α β : Type} (ev : α → β) (ps : List (Nat × α)) : (ps.map fun (i, x) => (i, ev x)).map (·.1) = ps.map (·.1) := by
  induction ps with
  | nil => rfl
  | cons p ps ih => simp [ih]

theorem map_snd {α β : Type} (ev : α → β) (ps : List (Nat × α)) : (ps.map fun (i, x) => (i, ev x)).map (·.2) = (ps.map (·.2)).map ev := by
  induction ps with
  | nil => rfl
  | cons p ps ih => simp [ih]

section
variable {D : Dt} {c : Cx} {s : St} {w : World}

theorem zero_cells {t : Nat} {ti : TI} {i : TypeInfo} {d : TypeDesc} {z : Value} (T : TF D.P t ti i d z) : VRs c ti.zero z.cells.toList := by
  rw [T.zs]
  exact VRs.ofT _ _ (VTs.ofV _ _)

theorem buildT_spec (F : Fit D) {t : Nat} {ps : List (Nat × V)} {qs : Array (Nat × Value)} (h1 : ps.map (·.1) = qs.toList.map (·.1)) (h2 : VRs c (ps.map (·.2)) (qs.toList.map (·.2)))
    {v : V} (h : buildT D t ps = some v) : ∃ y, (Instr.build t qs).run D.P w = .ok y w ∧ VR c v y := by
  unfold buildT at h
  split at h
  · rename_i ti hT
    obtain ⟨i, d, z, T⟩ := F.tf hT
    have hz := zero_cells (c := c) T
    split at h
    · rename_i fs hd
      rw [T.d] at hd
      obtain ⟨gs, rfl, hfs⟩ := toTD_struct hd
      have hk := T.fields
      simp only [fieldsKnown] at hk
      cases hf : fillT (placeS D fs) ti.zero ps with
      | none => rw [hf] at h; cases h
      | some cs =>
        rw [hf] at h
        simp only [Option.map_some, Option.some.injEq] at h
        subst h
        obtain ⟨ys, hy1, hy2⟩ := fill_spec (c := c) (place' := ((gs.toList.map fun f => (f.offset, D.P.cellsOf f.type)).toArray[·]?)) (fun i p hp => by
          unfold placeS at hp
          split at hp
          · rename_i ft off b hfi
            subst hfs
            simp only [List.getElem?_map, Option.map_eq_some_iff] at hfi
            obtain ⟨f, hf1, hf2⟩ := hfi
            simp only [Prod.mk.injEq] at hf2
            obtain ⟨rfl, rfl, _⟩ := hf2
            cases hft : D.T f.type with
            | none => simp [hft] at hp
            | some tf =>
              simp only [hft, Option.some.injEq] at hp
              subst hp
              obtain ⟨i2, d2, z2, T2⟩ := F.tf hft
              simp only [List.getElem?_toArray, List.getElem?_map, hf1, Option.map_some, Program.cellsOf, T2.info, Option.getD_some, T2.size]
          · cases hp) ps qs.toList ti.zero z.cells cs h1 h2 hz hf
        refine ⟨.agg ys, ?_, by simp only [VR]; exact ⟨ys, rfl, hy2⟩⟩
        have hm : (Array.mapM (fun f => (do pure (f.offset, ← sizeOf f.type) : Sem (Nat × Nat))) gs).run D.P w = .ok (gs.toList.map fun f => (f.offset, D.P.cellsOf f.type)).toArray w := by
          rw [Array.mapM_eq_mapM_toList]
          simp only [Sem.run_map]
          rw [run_mapM_size w gs.toList hk]
          rfl
        simp only [Instr.build, Sem.run_bind, T.run_zero w, Result.andThen_ok, T.run_und w, hm, hy1, Sem.run_pure]
    · rename_i n e hd
      rw [T.d] at hd
      obtain rfl := toTD_array hd
      split at h
      · rename_i te hte
        obtain ⟨i2, d2, z2, T2⟩ := F.tf hte
        cases hf : fillT (fun i => some (i * te.size, te.size)) ti.zero ps with
        | none => rw [hf] at h; cases h
        | some cs =>
          rw [hf] at h
          simp only [Option.map_some, Option.some.injEq] at h
          subst h
          obtain ⟨ys, hy1, hy2⟩ := fill_spec (c := c) (fun i p hp => hp) ps qs.toList ti.zero z.cells cs h1 h2 hz hf
          refine ⟨.agg ys, ?_, by simp only [VR]; exact ⟨ys, rfl, hy2⟩⟩
          simp only [Instr.build, Sem.run_bind, T.run_zero w, Result.andThen_ok, T.run_und w, T2.run_size w, hy1, Sem.run_pure]
      · cases h
    · cases h
  · cases h

theorem reps_len (z : List V) (n : Nat) : (reps z n).length = n * z.length := by
  induction n with
  | zero => simp [reps]
  | succ n ih => simp [reps, ih, Nat.succ_mul]; omega

theorem reps_get (z : List V) : ∀ (n i : Nat), i < n * z.length → (reps z n)[i]? = z[i % z.length]?
  | 0, i, h => by simp at h
  | n + 1, i, h => by
    simp only [reps]
    by_cases hi : i < z.length
    · rw [List.getElem?_append_left hi, Nat.mod_eq_of_lt hi]
    · rw [List.getElem?_append_right (by omega), reps_get z n (i - z.length) (by rw [Nat.succ_mul] at h; omega)]
      congr 1
      rw [← Nat.mod_eq_sub_mod (by omega)]

theorem VRs.of_get {c : Cx} : ∀ (vs : List V) (xs : List Value), vs.length = xs.length → (∀ (i : Nat) (v : V) (x : Value), vs[i]? = some v → xs[i]? = some x → VR c v x) → VRs c vs xs
  | [], [], _, _ => by simp only [VRs]
  | [], _ :: _, h, _ => by simp at h
  | _ :: _, [], h, _ => by simp at h
  | v :: vs, x :: xs, h, H => by
    simp only [VRs]
    exact ⟨H 0 v x (by simp) (by simp), VRs.of_get vs xs (by simpa using h) fun i u y hu hy => H (i + 1) u y (by simpa using hu) (by simpa using hy)⟩

theorem reps_rel (z : List V) (x : Array Value) (hz : VRs c z x.toList) (n : Nat) : VRs c (reps z n) ((Array.range (n * x.size)).map (x[· % x.size]!)).toList := by
  have hl := VRs.len _ _ hz
  simp at hl
  refine VRs.of_get _ _ (by simp [reps_len, hl]) fun i v y hv hy => ?_
  have hi : i < n * z.length := by have := (List.getElem?_eq_some_iff.1 hv).1; rwa [reps_len] at this
  rw [reps_get z n i hi] at hv
  obtain ⟨y', hy', hr⟩ := VRs.get _ _ hz _ v hv
  have hpos : 0 < x.size := by
    rw [← hl]
    rcases Nat.eq_zero_or_pos z.length with h | h
    · rw [h] at hi; simp at hi
    · exact h
  have hm : i % x.size < x.size := Nat.mod_lt _ hpos
  rw [hl] at hi
  have : y = y' := by
    simp only [Array.toList_map, Array.toList_range, List.getElem?_map, List.getElem?_range hi, Option.map_some, Option.some.injEq] at hy
    rw [hl, Array.getElem?_toList, Array.getElem?_eq_getElem hm] at hy'
    simp only [Option.some.injEq] at hy'
    rw [← hy, ← hy']
    simp [hm]
  rw [this]
  exact hr

theorem own_aft (K : Ok c) (hs : s.mem = c.m) (hw : w.heap = c.h) {q : Option Nat} {cs : List V} {xs : Array Value} (t : TypeId) {n sz cap : Nat}
    (hx : VRs c cs (xs.toList.take cs.length)) (hn : n * sz ≤ cs.length) (hc : n ≤ cap) (hcap : cap * sz ≤ xs.size) {i : Nat} {s' : St}
    (h : s.new q (.cells cs) = some (i, s')) :
    Aft c w s' (.so i cs.length 0 n sz) (.slice (some ⟨w.heap.size, 0, none⟩) n cap) (w.alloc (.cells xs t)) := by
  obtain ⟨h1, h2, h3, h4, h5, h6, h7⟩ := new_spec h
  rw [hs] at h4 h6 h7
  have X := new_ext K (.cells xs t) h3 h4 h6 h7
  obtain ⟨X', K'⟩ := new_aft K hs hw h (.cells xs t) ⟨xs, t, by simp [at_same], VRs.ext X _ _ hx⟩
  refine ⟨_, X', K', ?_, rfl, rfl, rfl⟩
  simp only [VR, SR, h3]
  refine ⟨⟨_, _, rfl, hc⟩, Nat.le_refl _, fun _ => ⟨by omega, _, cap, rfl, hc, fun _ => by simp [at_same, hw], fun l el fr hl => ?_⟩⟩
  have : (w.alloc (.cells xs t)).heap[c.h.size]? = some (.cells xs t) := by simp [World.alloc, hw]
  simp only [at_same] at hl
  rw [this] at hl
  cases hl
  omega

/-- A fresh block that nobody writes to. -/
theorem tree_aft (K : Ok c) (hs : s.mem = c.m) (hw : w.heap = c.h) {cs : List V} {xs : Array Value} (t : TypeId) {n : Nat} (full : Bool)
    (hx : VRs c cs xs.toList) (hl : V.leadsL cs = false) :
    Aft c w s (.st full n cs) (.slice (some ⟨w.heap.size, 0, none⟩) n n) (w.alloc (.cells xs t)) := by
  have hsame : (⟨(w.alloc (.cells xs t)).heap, s.mem, c.r⟩ : Cx) = ⟨c.h.push (.cells xs t), c.m, c.r⟩ := by simp [World.alloc, hw, hs]
  have hh : ∀ x, x < c.h.size → (c.h.push (.cells xs t))[x]? = c.h[x]? := fun x hx => by rw [Array.getElem?_push]; simp; omega
  have X : Ext c ⟨c.h.push (.cells xs t), c.m, c.r⟩ := ⟨by simp, fun x hx => ⟨hh x hx.1, by simp; have := hx.1; omega, hx.2⟩, Nat.le_refl _, fun j => by
    unfold Keeps
    split
    · rename_i cs hcs
      have hj : c.has j := ⟨(List.getElem?_eq_some_iff.1 hcs).1, by rw [hcs]; simp⟩
      exact ⟨cs, hcs, Nat.le_refl _, fun _ => ⟨rfl, fun l el fr hl => ⟨l, el, fr, by rw [← hh _ (K.lt j hj)]; exact hl, rfl⟩⟩⟩
    · rename_i es hes; exact ⟨⟨es, hes⟩, rfl⟩
    · rename_i s p hes; exact ⟨⟨s, p, hes⟩, rfl⟩
    · trivial⟩
  have K' : Ok ⟨c.h.push (.cells xs t), c.m, c.r⟩ := ⟨fun j bj hj => by
      by_cases hv : bj = .vac
      · subst hv; trivial
      · have hjh : c.has j := ⟨(List.getElem?_eq_some_iff.1 hj).1, by rw [hj]; simpa using hv⟩
        exact (K.blk j bj hj).ext X rfl (hh _ (K.lt j hjh)), fun j k hj hk => K.inj j k hj hk, fun j hj => by
      have := K.lt j hj
      simp; omega⟩
  refine ⟨c.r, ?_⟩
  rw [hsame]
  refine ⟨X, K', ?_, rfl, rfl, rfl⟩
  simp only [VR, VT]
  refine ⟨_, n, rfl, Nat.le_refl _, fun _ => rfl, .inr ⟨w.heap.size, 0, xs, t, (0, 0), rfl, ⟨by simp [hw], fun j hj hr => ?_⟩, by simp [hw], ?_⟩⟩
  · have := K.lt j hj
    simp only at hr
    rw [hw] at hr
    omega
  · rw [List.drop_zero, List.take_of_length_le (by rw [VRs.len _ _ hx]; exact Nat.le_refl _)]
    have := VRs.toT cs _ hl hx
    exact VTs.mono (fun b hb => (X.imm b hb).1) (fun b hb => (X.imm b hb).2) _ _ this

theorem buildSliceT_spec (F : Fit D) (K : Ok c) (hs : s.mem = c.m) (hw : w.heap = c.h) {q : Option Nat} {t n : Nat} {ps : List (Nat × V)} {qs : Array (Nat × Value)}
    (h1 : ps.map (·.1) = qs.toList.map (·.1)) (h2 : VRs c (ps.map (·.2)) (qs.toList.map (·.2))) {v : V} {s' : St} (h : buildSliceT D s q t n ps = some (v, s')) :
    ∃ y w', (Instr.buildSlice t n qs).run D.P w = .ok y w' ∧ Aft c w s' v y w' := by
  unfold buildSliceT at h
  split at h
  · rename_i e te hte
    · split at h
      · rename_i hc
        simp only [Bool.and_eq_true, decide_eq_true_eq] at hc
        obtain ⟨⟨hc1, hc2⟩, hc3⟩ := hc
        split at h
        · rename_i cs hf
          obtain ⟨hund, i2, d2, z2, T2⟩ := sl_spec F hte
          have hz2 := zero_cells (c := c) T2
          have hzl := VRs.len _ _ hz2
          simp at hzl
          have hzz : z2.cells.size = te.size := by rw [T2.zsize, T2.size]
          obtain ⟨ys, hy1, hy2⟩ := fill_spec (c := c) (place' := fun i => some (i * te.size, te.size)) (fun i p hp => hp) ps qs.toList _ _ cs h1 h2 (reps_rel te.zero z2.cells hz2 n) hf
          have hcl : cs.length = ys.size := by have := VRs.len _ _ hy2; simpa using this
          have hlen : cs.length = n * te.size := by
            have : ∀ (ps : List (Nat × V)) (a b : List V), fillT (fun i => some (i * te.size, te.size)) a ps = some b → b.length = a.length := by
              intro ps
              induction ps with
              | nil => intro a b hab; simp only [fillT, Option.some.injEq] at hab; rw [hab]
              | cons p ps ih =>
                intro a b hab
                obtain ⟨i, u⟩ := p
                simp only [fillT] at hab
                split at hab
                · rename_i hcc
                  simp only [Bool.and_eq_true, decide_eq_true_eq] at hcc
                  rw [ih _ _ hab, over_len (by omega)]
                · cases hab
            rw [this ps _ _ hf, reps_len, hc2]
          have hrun : (Instr.buildSlice t n qs).run D.P w = .ok (.slice (some ⟨w.heap.size, 0, none⟩) n n) (w.alloc (.cells ys e)) := by
            simp only [Instr.buildSlice, Sem.run_bind, run_underlying hund, Result.andThen_ok, T2.run_size w]
            rw [if_neg (by omega)]
            by_cases h0 : n * te.size = 0
            · rw [if_pos h0]
              have hn0 : n = 0 := by rcases Nat.mul_eq_zero.1 h0 with h | h; exact h; exact absurd h hc3
              subst hn0
              simp only [Sem.run_pure, Result.andThen_ok, Sem.run_bind, Nat.zero_mul] at hy1 ⊢
              simp only [Array.range_zero', Array.map_empty] at hy1 ⊢
              rw [hy1]
              simp [newRow]
            · rw [if_neg h0]
              simp only [Sem.run_bind, T2.run_zero w, Result.andThen_ok, Sem.run_pure]
              rw [← hzz] at hy1 ⊢
              rw [hy1]
              simp [newRow]
          refine ⟨_, _, hrun, ?_⟩
          by_cases hl : V.leadsL cs = true
          · simp only [hl, if_true] at h
            cases hnew : s.new q (.cells cs) with
            | none => simp [hnew] at h
            | some p =>
              obtain ⟨j, s2⟩ := p
              simp only [hnew, Option.map_some, Option.some.injEq, Prod.mk.injEq] at h
              obtain ⟨rfl, rfl⟩ := h
              exact own_aft K hs hw e (by rw [List.take_of_length_le (by simp; omega)]; exact hy2) (by omega) (Nat.le_refl _) (by omega) hnew
          · simp only [hl] at h
            simp only [Bool.false_eq_true, if_false, Option.some.injEq, Prod.mk.injEq] at h
            obtain ⟨rfl, rfl⟩ := h
            exact tree_aft K hs hw e true hy2 (by simpa using hl)
        · cases h
      · cases h
  · cases h

end
end Go.Pe

namespace Go.Pe
section
variable {D : Dt} {c : Cx} {s : St} {w : World}

theorem VRs.take_reps (z : List V) (x : Array Value) (hz : VRs c z x.toList) (n m : Nat) (h : n ≤ m) :
    VRs c (reps z n) (((Array.range (m * x.size)).map (x[· % x.size]!)).toList.take (reps z n).length) := by
  have hl := VRs.len _ _ hz
  simp at hl
  have h1 := VRs.take _ _ (n * z.length) (reps_rel z x hz m)
  have e : (reps z m).take (n * z.length) = reps z n := by
    apply List.ext_getElem?
    intro i
    have hle : n * z.length ≤ m * z.length := Nat.mul_le_mul_right _ h
    rw [List.getElem?_take]
    split
    · rename_i hi
      rw [reps_get z m i (by omega), reps_get z n i hi]
    · rename_i hi
      rw [List.getElem?_eq_none (by rw [reps_len]; omega)]
  rw [e] at h1
  rw [reps_len]
  exact h1

theorem makeSliceT_spec (F : Fit D) (K : Ok c) (hs : s.mem = c.m) (hw : w.heap = c.h) {q : Option Nat} {t : Nat} {l k : V} {x y : Value} (hl : VR c l x) (hk : VR c k y)
    {v : V} {s' : St} (h : makeSliceT D s q t l k = some (v, s')) : ∃ y' w', (Instr.makeSlice t x y).run D.P w = .ok y' w' ∧ Aft c w s' v y' w' := by
  unfold makeSliceT at h
  split at h
  · rename_i e te kl n kc m hte
    split at h
    · rename_i hc
      simp only [Bool.and_eq_true, decide_eq_true_eq] at hc
      obtain ⟨⟨⟨⟨⟨h0, h1⟩, h2⟩, h3⟩, h4⟩, h5⟩ := hc
      obtain ⟨hund, i2, d2, z2, T2⟩ := sl_spec F hte
      simp only [VR, VT] at hl hk
      subst hl; subst hk
      have hz2 := zero_cells (c := c) T2
      have hzz : z2.cells.size = te.size := by rw [T2.zsize, T2.size]
      have hb : (i2.bytes : Int) * m ≤ 281474976710656 := by rw [← T2.bytes, Int.mul_comm]; omega
      have hr := run_make (P := D.P) w t e i2 z2 hund T2.info T2.zero kl kc n m h0 h1 hb (by omega)
      cases hnew : s.new q (.cells (reps te.zero n.toNat)) with
      | none => simp [hnew] at h
      | some p =>
        obtain ⟨j, s2⟩ := p
        simp only [hnew, Option.map_some, Option.some.injEq, Prod.mk.injEq] at h
        obtain ⟨rfl, rfl⟩ := h
        refine ⟨_, _, hr, ?_⟩
        have hlen : (reps te.zero n.toNat).length = n.toNat * te.size := by rw [reps_len, h4]
        rw [← hlen]
        refine own_aft K hs hw e ?_ (by rw [hlen]; exact Nat.le_refl _) (by omega) ?_ hnew
        · rw [← T2.size, ← hzz]
          exact VRs.take_reps _ _ hz2 _ _ (by omega)
        · rw [size_madeCells, T2.size]
          exact Nat.le_refl _
    · cases h
  · cases h

theorem plus_spec {off : Nat} {p v : V} {x : Value} (hx : VR c p x) (h : p.plus off = some v) :
    ∃ a : Addr, x = .pointer (some a) ∧ VR c v (.pointer (some (a.add off))) := by
  cases p <;> simp only [V.plus, reduceCtorEq, Option.some.injEq] at h
  case pb i e o =>
    subst h
    simp only [VR, PR] at hx ⊢
    split at hx
    · obtain ⟨⟨b, rfl⟩, h2, h3⟩ := hx
      refine ⟨b, rfl, ⟨_, rfl⟩, h2, fun hl => ?_⟩
      have := h3 hl
      simp only [Value.pointer.injEq, Option.some.injEq] at this
      rw [this, add_none]
    · obtain ⟨⟨b, rfl⟩, h3⟩ := hx
      refine ⟨b, rfl, ⟨_, rfl⟩, fun h0 => ?_⟩
      have := h3 (by omega)
      simp only [Value.pointer.injEq, Option.some.injEq] at this
      rw [this, add_none, show off = 0 by omega]
    · exact hx.elim
  case pt cs o =>
    subst h
    simp only [VR, VT] at hx ⊢
    obtain ⟨b, o', l, e, fr, rfl, h1, h2, h3⟩ := hx
    exact ⟨_, rfl, b, o', l, e, fr, by rw [add_none, Nat.add_assoc], h1, h2, h3⟩

theorem fieldT_spec (F : Fit D) {t f : Nat} {p v : V} {x : Value} (hx : VR c p x) (h : fieldT D t p f = some v) :
    ∃ y, (Instr.fieldAt t x f).run D.P w = .ok y w ∧ VR c v y := by
  unfold fieldT at h
  split at h
  · rename_i ft off hf
    split at h
    · rename_i tf htf
      split at h
      · cases h
      · rename_i h0
        obtain ⟨gs, g, h1, h2, h3, h4⟩ := fld_spec F hf
        obtain ⟨i, d, z, T⟩ := F.tf htf
        obtain ⟨a, rfl, hv⟩ := plus_spec hx h
        refine ⟨_, ?_, hv⟩
        have hsz : (sizeOf g.type).run D.P w = .ok tf.size w := by rw [h3]; exact T.run_size w
        simp only [Instr.fieldAt, Sem.run_bind, run_underlying h1, Result.andThen_ok, h2, Instr.sureAddr, Sem.run_pure, fieldPlace, hsz]
        rw [if_neg h0, h4]
        rfl
    · cases h
  · cases h

theorem elem_spec {sz : Nat} {k : Int} {p v : V} {x : Value} (hx : VR c p x) (h : p.elem sz k = some v) :
    ∃ (a : Addr) (n m : Nat), x = .slice (some a) n m ∧ 0 ≤ k ∧ k < n ∧ VR c v (.pointer (some (a.add (k.toNat * sz)))) := by
  cases p <;> simp only [V.elem, reduceCtorEq] at h
  case st full n cs =>
    split at h
    · rename_i hc
      simp only [Option.some.injEq] at h
      subst h
      simp only [Bool.and_eq_true, decide_eq_true_eq] at hc
      obtain ⟨⟨⟨h0, h1⟩, h2⟩, h3⟩ := hc
      simp only [VR, VT] at hx ⊢
      obtain ⟨a, cap, rfl, _, _, h6⟩ := hx
      rcases h6 with h6 | ⟨b, o, l, e, fr, rfl, h7, h8, h9⟩
      · subst h6
        simp only [List.length_nil] at h2
        rcases Nat.mul_eq_zero.1 h2.symm with h | h
        · omega
        · exact absurd h h3
      · exact ⟨_, n, cap, rfl, h0, h1, b, o, l, e, fr, by rw [add_none], h7, h8, h9⟩
    · cases h
  case so i e o n z =>
    split at h
    · rename_i hc
      simp only [Option.some.injEq] at h
      subst h
      simp only [Bool.and_eq_true, decide_eq_true_eq] at hc
      obtain ⟨⟨h0, h1⟩, h2⟩ := hc
      simp only [VR, SR, PR] at hx ⊢
      split at hx
      · rename_i cs hm
        obtain ⟨⟨b, m, rfl, _⟩, h3, h4⟩ := hx
        simp only [hm]
        refine ⟨b, n, m, rfl, h0, h1, ⟨_, rfl⟩, h3, fun hl => ?_⟩
        obtain ⟨_, a', cap, h5, h6, h7, _⟩ := h4 hl
        simp only [Value.slice.injEq, Option.some.injEq] at h5
        rw [h5.1, h7 (by omega), add_none]
      · exact hx.elim
    · cases h

theorem indexAddrT_spec (F : Fit D) {t : Nat} {p i v : V} {x y : Value} (hx : VR c p x) (hy : VR c i y) (h : indexAddrT D t p i = some v) :
    ∃ y', (Instr.indexAt t x y).run D.P w = .ok y' w ∧ VR c v y' := by
  unfold indexAddrT at h
  split at h
  · rename_i k n
    simp only [VR, VT] at hy
    subst hy
    split at h
    · rename_i e te hte
      obtain ⟨hund, i2, d2, z2, T2⟩ := sl_spec F hte
      obtain ⟨a, m, cap, rfl, h0, h1, hv⟩ := elem_spec hx h
      refine ⟨_, ?_, hv⟩
      simp only [Instr.indexAt, asIntOf, Sem.run_bind, Sem.run_pure, Result.andThen_ok, run_underlying hund]
      rw [if_pos ⟨h0, h1⟩]
      simp only [Sem.run_bind, T2.run_size w, Result.andThen_ok, Sem.run_pure]
    · split at h
      · rename_i m e te har
        obtain ⟨hund, i2, d2, z2, T2⟩ := ar_spec F har
        split at h
        · rename_i hc
          simp only [Bool.and_eq_true, decide_eq_true_eq] at hc
          obtain ⟨a, rfl, hv⟩ := plus_spec hx h
          refine ⟨_, ?_, hv⟩
          simp only [Instr.indexAt, asIntOf, Sem.run_bind, Sem.run_pure, Result.andThen_ok, run_underlying hund, Instr.sureAddr]
          rw [if_pos hc]
          simp only [Sem.run_bind, T2.run_size w, Result.andThen_ok, Sem.run_pure]
        · cases h
      · cases h
  · cases h

theorem indexT_spec (F : Fit D) {t : Nat} {p i v : V} {x y : Value} (hx : VR c p x) (hy : VR c i y) (h : indexT D t p i = some v) :
    ∃ y', (Instr.index t x y).run D.P w = .ok y' w ∧ VR c v y' := by
  unfold indexT at h
  split at h
  · rename_i cs k n
    simp only [VR, VT] at hy
    subst hy
    split at h
    · rename_i m e te har
      obtain ⟨hund, i2, d2, z2, T2⟩ := ar_spec F har
      split at h
      · rename_i hc
        simp only [Bool.and_eq_true, decide_eq_true_eq] at hc
        simp only [VR] at hx
        obtain ⟨xs, rfl, hx⟩ := hx
        obtain ⟨y', h1, h2⟩ := partT_spec F h hx w
        refine ⟨y', ?_, h2⟩
        simp only [Instr.index, asIntOf, Sem.run_bind, Sem.run_pure, Result.andThen_ok, run_underlying hund]
        rw [if_pos hc]
        simp only [Sem.run_bind, T2.run_size w, Result.andThen_ok, h1]
      · cases h
    · cases h
  · rename_i b k n
    simp only [VR, VT] at hx hy
    subst hx; subst hy
    split at h
    · rename_i hc
      simp only [Bool.and_eq_true, decide_eq_true_eq] at hc
      have hund := isStr_spec F hc.1
      cases hb : b[n.toNat]? with
      | none => simp [hb] at h
      | some u =>
        simp only [hb, Option.map_some, Option.some.injEq] at h
        subst h
        refine ⟨.int .u8 u.toNat, ?_, by simp only [VR, VT]⟩
        have hg : (⟨b.toArray⟩ : ByteArray)[n.toNat]? = some u := by
          have hlt := (List.getElem?_eq_some_iff.1 hb).1
          have h2 := (List.getElem?_eq_some_iff.1 hb).2
          rw [getElem?_pos (⟨b.toArray⟩ : ByteArray) n.toNat (by simpa [ByteArray.size] using hlt)]
          simp only [Option.some.injEq]
          rw [← h2]
          rfl
        simp only [Instr.index, asIntOf, Sem.run_bind, Sem.run_pure, Result.andThen_ok, run_underlying hund]
        rw [if_pos hc.2, hg]
        rfl
    · cases h
  · cases h

theorem int_of {v : V} {x : Value} {k : IntKind} {n : Int} (h : VR c v x) (e : v = .int k n) : x = .int k n := by
  subst e
  simpa only [VR, VT] using h

theorem wrapOp_spec {op : BinOp} {k : IntKind} {a b : Int} {v : V} (h : wrapOp op k a b = some v) (t : TypeId) (x y : Operand) :
    ∃ z, (do eqGuard op t x y (.int k a) (.int k b); binOp op t (.int k a) (.int k b) : Sem Value).run D.P w = .ok z w ∧ VR c v z := by
  cases op <;> simp only [wrapOp, Option.some.injEq, reduceCtorEq] at h
  case quo =>
    split at h
    · cases h
    · rename_i h0
      simp only [Option.some.injEq] at h
      subst h
      refine ⟨_, ?_, by simp only [VR, VT]; rfl⟩
      simp only [Sem.run_bind, eqGuard_at_int, Sem.run_pure, Result.andThen_ok, binOp, Op.intDiv]
      simp [h0]
  case rem =>
    split at h
    · cases h
    · rename_i h0
      simp only [Option.some.injEq] at h
      subst h
      refine ⟨_, ?_, by simp only [VR, VT]; rfl⟩
      simp only [Sem.run_bind, eqGuard_at_int, Sem.run_pure, Result.andThen_ok, binOp, Op.intDiv]
      simp [h0]
  all_goals
    subst h
    refine ⟨_, ?_, by simp only [VR, VT]; rfl⟩
    simp only [Sem.run_bind, eqGuard_at_int, Sem.run_pure, Result.andThen_ok, binOp, Op.intArith, Op.intBits, Op.intCmp]
    simp

end
end Go.Pe

namespace Go.Pe
section
variable {D : Dt} {c : Cx} {s : St} {w : World}

/-- What the model answers to '==' of related values. -/
def EqOk (D : Dt) (c : Cx) (w : World) (d : Nat) : Prop :=
  ∀ (t : Nat) (x y : V) (X Y : Value) (b : Bool), VR c x X → VR c y Y → eqT D d t x y = some b → (Op.equalIn d t X Y).run D.P w = .ok b w

theorem eqFields_spec (F : Fit D) {d : Nat} (H : EqOk D c w d) {xs ys : List V} {X Y : Array Value} (hx : VRs c xs X.toList) (hy : VRs c ys Y.toList) :
    ∀ (gs : List Field) (b : Bool), eqParts (eqT D d) D xs ys (gs.map fun f => (f.type, f.offset, f.name == "_")) = some b → (Op.eqFields d X Y gs).run D.P w = .ok b w
  | [], b, h => by
    simp only [List.map_nil, eqParts, Option.some.injEq] at h
    subst h
    rfl
  | f :: gs, b, h => by
    simp only [List.map_cons, eqParts] at h
    by_cases hn : f.name = "_"
    · have hb : (f.name == "_") = true := by simp [hn]
      rw [hb, if_pos rfl] at h
      simp only [Op.eqFields]
      rw [if_neg (by simpa using hn)]
      exact eqFields_spec F H hx hy gs b h
    · have hb : (f.name == "_") = false := by simp [hn]
      rw [hb, if_neg (by simp)] at h
      simp only [Op.eqFields]
      rw [if_pos hn]
      split at h
      · rename_i x y hpx hpy
        obtain ⟨X', h1, h2⟩ := partT_spec F hpx hx w
        obtain ⟨Y', h3, h4⟩ := partT_spec F hpy hy w
        simp only [Sem.run_bind, h1, Result.andThen_ok, h3]
        split at h
        · rename_i he
          rw [H _ _ _ _ _ _ h2 h4 he]
          simp only [Result.andThen_ok, Bool.not_true, Bool.false_eq_true, if_false]
          exact eqFields_spec F H hx hy gs b h
        · rename_i hne
          cases b with
          | true => exact absurd h hne
          | false =>
            rw [H _ _ _ _ _ _ h2 h4 h]
            rfl
      · cases h

theorem eqItems_spec (F : Fit D) {d : Nat} (H : EqOk D c w d) {xs ys : List V} {X Y : Array Value} (hx : VRs c xs X.toList) (hy : VRs c ys Y.toList) (e sz : Nat) :
    ∀ (n i : Nat) (b : Bool), eqParts (eqT D d) D xs ys (elems e sz n i) = some b → (Op.eqItems d e sz X Y (List.range' i n)).run D.P w = .ok b w
  | 0, i, b, h => by
    simp only [elems, eqParts, Option.some.injEq] at h
    subst h
    rfl
  | n + 1, i, b, h => by
    simp only [elems, eqParts, Bool.false_eq_true, if_false] at h
    simp only [List.range'_succ, Op.eqItems]
    split at h
    · rename_i x y hpx hpy
      obtain ⟨X', h1, h2⟩ := partT_spec F hpx hx w
      obtain ⟨Y', h3, h4⟩ := partT_spec F hpy hy w
      simp only [Sem.run_bind, h1, Result.andThen_ok, h3]
      split at h
      · rename_i he
        rw [H _ _ _ _ _ _ h2 h4 he]
        simp only [Result.andThen_ok, Bool.not_true, Bool.false_eq_true, if_false]
        exact eqItems_spec F H hx hy e sz n (i + 1) b h
      · rename_i hne
        cases b with
        | true => exact absurd h hne
        | false =>
          rw [H _ _ _ _ _ _ h2 h4 h]
          rfl
    · cases h

theorem bytes_beq (a b : List UInt8) : ((⟨a.toArray⟩ : ByteArray) == ⟨b.toArray⟩) = (a == b) := by
  rw [beq_toListBytes, ByteArray.toList_eq, ByteArray.toList_eq]

theorem fieldsOf_eq {P : Program} {t : Nat} {gs : Array Field} (h : P.underlying t = some (.struct gs)) : P.fieldsOf t = gs := by simp [Program.fieldsOf, h]

theorem eqT_spec (F : Fit D) : ∀ d, EqOk D c w d
  | 0 => fun t x y X Y b _ _ h => by simp only [eqT] at h; cases h
  | d + 1 => fun t x y X Y b hx hy h => by
    have H := eqT_spec F d
    unfold eqT at h
    split at h
    · cases h
    · rename_i ti hT
      obtain ⟨i, td, z, T⟩ := F.tf hT
      split at h
      · rename_i hd; rw [T.d] at hd; obtain rfl := toTD_bool hd
        simp only [VR, VT] at hx hy; subst hx; subst hy
        simp only [Option.some.injEq] at h; subst h
        simp [Op.equalIn, run_underlying T.und]
      · rename_i k0 k a k' b' hd; rw [T.d] at hd; obtain rfl := toTD_int hd
        simp only [VR, VT] at hx hy; subst hx; subst hy
        split at h
        · rename_i hk
          subst hk
          simp only [Option.some.injEq] at h; subst h
          simp [Op.equalIn, run_underlying T.und]
        · cases h
      · rename_i a b' hd; rw [T.d] at hd; obtain rfl := toTD_str hd
        simp only [VR, VT] at hx hy; subst hx; subst hy
        simp only [Option.some.injEq] at h; subst h
        simp [Op.equalIn, run_underlying T.und, bytes_beq]
      · rename_i ms hd; rw [T.d] at hd; obtain ⟨ns, rfl, _⟩ := toTD_iface hd
        simp only [VR, VT] at hx hy; subst hx; subst hy
        simp only [Option.some.injEq] at h; subst h
        simp [Op.equalIn, run_underlying T.und]
      · rename_i ms u v hd; rw [T.d] at hd; obtain ⟨ns, rfl, _⟩ := toTD_iface hd
        simp only [VR, VT] at hx hy; subst hx
        obtain ⟨y', rfl, _⟩ := hy
        simp only [Option.some.injEq] at h; subst h
        simp [Op.equalIn, run_underlying T.und]
      · rename_i ms u v hd; rw [T.d] at hd; obtain ⟨ns, rfl, _⟩ := toTD_iface hd
        simp only [VR, VT] at hx hy; subst hy
        obtain ⟨y', rfl, _⟩ := hx
        simp only [Option.some.injEq] at h; subst h
        simp [Op.equalIn, run_underlying T.und]
      · rename_i ms tx vx ty vy hd; rw [T.d] at hd; obtain ⟨ns, rfl, _⟩ := toTD_iface hd
        simp only [VR] at hx hy
        obtain ⟨X', rfl, hx⟩ := hx
        obtain ⟨Y', rfl, hy⟩ := hy
        split at h
        · rename_i ht
          subst ht
          split at h
          · rename_i tj htj
            obtain ⟨j, dj, zj, Tj⟩ := F.tf htj
            split at h
            · rename_i hc
              rw [Tj.comp] at hc
              have := H _ _ _ _ _ _ hx hy h
              simp [Op.equalIn, run_underlying T.und, Tj.run_info, hc, this]
            · cases h
          · cases h
        · rename_i ht
          simp only [Option.some.injEq] at h; subst h
          simp [Op.equalIn, run_underlying T.und, ht]
      · rename_i fs xs ys hd
        have hst := T.stood fs hd
        rw [T.d] at hd
        obtain ⟨gs, rfl, rfl⟩ := toTD_struct hd
        simp only [VR] at hx hy
        obtain ⟨X', rfl, hx⟩ := hx
        obtain ⟨Y', rfl, hy⟩ := hy
        have hg := fieldsOf_eq T.und
        rw [run_equalIn_struct w d t X' Y' (by rw [hg]; exact T.und) hst, hg]
        exact eqFields_spec F H hx hy gs.toList b h
      · rename_i n e xs ys hd
        rw [T.d] at hd
        obtain rfl := toTD_array hd
        simp only [VR] at hx hy
        obtain ⟨X', rfl, hx⟩ := hx
        obtain ⟨Y', rfl, hy⟩ := hy
        split at h
        · rename_i te hte
          obtain ⟨i2, d2, z2, T2⟩ := F.tf hte
          have hc : D.P.cellsOf e = te.size := by simp [Program.cellsOf, T2.info, T2.size]
          rw [run_equalIn_array w d X' Y' T.und T2.info, hc, List.range_eq_range']
          exact eqItems_spec F H hx hy e te.size n 0 b h
        · cases h
      · rename_i hd; rw [T.d] at hd; obtain ⟨a', b', c', rfl⟩ := toTD_func hd
        simp only [VR, VT] at hx hy; subst hx; subst hy
        simp only [Option.some.injEq] at h; subst h
        simp [Op.equalIn, run_underlying T.und]
      · rename_i f cap hd; rw [T.d] at hd; obtain ⟨a', b', c', rfl⟩ := toTD_func hd
        simp only [VR, VT] at hx hy; subst hx
        obtain ⟨ys, rfl, _⟩ := hy
        simp only [Option.some.injEq] at h; subst h
        simp [Op.equalIn, run_underlying T.und]
      · rename_i f cap hd; rw [T.d] at hd; obtain ⟨a', b', c', rfl⟩ := toTD_func hd
        simp only [VR, VT] at hx hy; subst hy
        obtain ⟨ys, rfl, _⟩ := hx
        simp only [Option.some.injEq] at h; subst h
        simp [Op.equalIn, run_underlying T.und]
      · cases h

/-! ### the guard ahead of '==' -/

def GdOk (D : Dt) (c : Cx) (w : World) (d : Nat) : Prop :=
  ∀ (t : Nat) (x y : V) (X Y : Value) (b : Bool), VR c x X → VR c y Y → guardT D d t x y = some b → (Op.eqGuardIn d t X Y).run D.P w = .ok b w

theorem gdFields_spec (F : Fit D) {d : Nat} (H : GdOk D c w d) {xs ys : List V} {X Y : Array Value} (hx : VRs c xs X.toList) (hy : VRs c ys Y.toList) :
    ∀ (gs : List Field) (b : Bool), anyParts (guardT D d) D xs ys (gs.map fun f => (f.type, f.offset, f.name == "_")) = some b →
      ∃ r : Option Bool, (forIn gs ((none, ()) : Option Bool × Unit) fun f _ =>
          if f.name ≠ "_" then do
            if (← Op.eqGuardIn d f.type (← part f.type X f.offset) (← part f.type Y f.offset)) = true then pure (ForInStep.done (some true, ())) else pure (ForInStep.yield (none, ()))
          else pure (ForInStep.yield (none, ())) : Sem (Option Bool × Unit)).run D.P w = .ok (r, ()) w ∧ r.getD false = b
  | [], b, h => by
    simp only [List.map_nil, anyParts, Option.some.injEq] at h
    subst h
    exact ⟨none, by simp, rfl⟩
  | f :: gs, b, h => by
    have ih := gdFields_spec F H hx hy gs
    simp only [List.map_cons, anyParts] at h
    simp only [List.forIn_cons]
    by_cases hn : f.name = "_"
    · have hb : (f.name == "_") = true := by simp [hn]
      rw [hb, if_pos rfl] at h
      rw [if_neg (by simpa using hn)]
      simpa using ih b h
    · have hb : (f.name == "_") = false := by simp [hn]
      rw [hb, if_neg (by simp)] at h
      rw [if_pos hn]
      split at h
      · rename_i x y hpx hpy
        obtain ⟨X', h1, h2⟩ := partT_spec F hpx hx w
        obtain ⟨Y', h3, h4⟩ := partT_spec F hpy hy w
        simp only [bind_assoc, Sem.run_bind, h1, Result.andThen_ok, h3]
        split at h
        · rename_i he
          rw [H _ _ _ _ _ _ h2 h4 he]
          simpa using ih b h
        · rename_i hne
          cases b with
          | false => exact absurd h hne
          | true =>
            rw [H _ _ _ _ _ _ h2 h4 h]
            exact ⟨some true, by simp, rfl⟩
      · cases h

theorem gdItems_spec (F : Fit D) {d : Nat} (H : GdOk D c w d) {xs ys : List V} {X Y : Array Value} (hx : VRs c xs X.toList) (hy : VRs c ys Y.toList) (e sz : Nat) :
    ∀ (n i : Nat) (b : Bool), anyParts (guardT D d) D xs ys (elems e sz n i) = some b →
      ∃ r : Option Bool, (forIn (List.range' i n) ((none, ()) : Option Bool × Unit) fun j _ => do
            if (← Op.eqGuardIn d e (← part e X (j * sz)) (← part e Y (j * sz))) = true then pure (ForInStep.done (some true, ())) else pure (ForInStep.yield (none, ())) : Sem (Option Bool × Unit)).run D.P w = .ok (r, ()) w ∧ r.getD false = b
  | 0, i, b, h => by
    simp only [elems, anyParts, Option.some.injEq] at h
    subst h
    exact ⟨none, by simp, rfl⟩
  | n + 1, i, b, h => by
    have ih := gdItems_spec F H hx hy e sz n (i + 1)
    simp only [elems, anyParts, Bool.false_eq_true, if_false] at h
    simp only [List.range'_succ, List.forIn_cons]
    split at h
    · rename_i x y hpx hpy
      obtain ⟨X', h1, h2⟩ := partT_spec F hpx hx w
      obtain ⟨Y', h3, h4⟩ := partT_spec F hpy hy w
      simp only [bind_assoc, Sem.run_bind, h1, Result.andThen_ok, h3]
      split at h
      · rename_i he
        rw [H _ _ _ _ _ _ h2 h4 he]
        simpa using ih b h
      · rename_i hne
        cases b with
        | false => exact absurd h hne
        | true =>
          rw [H _ _ _ _ _ _ h2 h4 h]
          exact ⟨some true, by simp, rfl⟩
    · cases h

theorem guardT_spec (F : Fit D) : ∀ d, GdOk D c w d
  | 0 => fun t x y X Y b _ _ h => by simp only [guardT] at h; cases h
  | d + 1 => fun t x y X Y b hx hy h => by
    have H := guardT_spec F d
    unfold guardT at h
    split at h
    · cases h
    · rename_i ti hT
      obtain ⟨i, td, z, T⟩ := F.tf hT
      split at h
      · rename_i ms hd; rw [T.d] at hd; obtain ⟨ns, rfl, hms⟩ := toTD_iface hd
        simp only [VR, VT] at hx hy; subst hx; subst hy
        simp only [Option.some.injEq] at h; subst h
        simp [Op.eqGuardIn, run_underlying T.und, hms]
      · rename_i ms u v hd; rw [T.d] at hd; obtain ⟨ns, rfl, _⟩ := toTD_iface hd
        simp only [VR] at hx
        obtain ⟨X', rfl, hx⟩ := hx
        simp only [Option.some.injEq] at h; subst h
        simp [Op.eqGuardIn, run_underlying T.und]
      · rename_i ms u v hd; rw [T.d] at hd; obtain ⟨ns, rfl, _⟩ := toTD_iface hd
        simp only [VR, VT] at hx hy
        subst hx
        obtain ⟨Y', rfl, hy⟩ := hy
        simp only [Option.some.injEq] at h; subst h
        simp [Op.eqGuardIn, run_underlying T.und]
      · rename_i fs xs ys hd
        rw [T.d] at hd
        obtain ⟨gs, rfl, rfl⟩ := toTD_struct hd
        simp only [VR] at hx hy
        obtain ⟨X', rfl, hx⟩ := hx
        obtain ⟨Y', rfl, hy⟩ := hy
        obtain ⟨r, h1, h2⟩ := gdFields_spec F H hx hy gs.toList b h
        simp only [Op.eqGuardIn, Sem.run_bind, run_underlying T.und, Result.andThen_ok]
        rw [← Array.forIn_toList]
        erw [h1]
        cases r <;> simp_all
      · rename_i n e xs ys hd
        rw [T.d] at hd
        obtain rfl := toTD_array hd
        simp only [VR] at hx hy
        obtain ⟨X', rfl, hx⟩ := hx
        obtain ⟨Y', rfl, hy⟩ := hy
        split at h
        · rename_i te hte
          obtain ⟨i2, d2, z2, T2⟩ := F.tf hte
          obtain ⟨r, h1, h2⟩ := gdItems_spec F H hx hy e te.size n 0 b h
          simp only [Op.eqGuardIn, Sem.run_bind, run_underlying T.und, Result.andThen_ok, T2.run_size w]
          simp only [Std.Legacy.Range.forIn_eq_forIn_range', Std.Legacy.Range.size, Nat.sub_zero, Nat.add_one_sub_one, Nat.div_one]
          erw [h1]
          cases r <;> simp_all
        · cases h
      · simp only [VR, VT] at hx; subst hx
        simp only [Option.some.injEq] at h; subst h
        simp only [Op.eqGuardIn, Sem.run_bind, run_underlying T.und, Result.andThen_ok]
        cases td <;> simp
      · simp only [VR, VT] at hx; subst hx
        simp only [Option.some.injEq] at h; subst h
        simp only [Op.eqGuardIn, Sem.run_bind, run_underlying T.und, Result.andThen_ok]
        cases td <;> simp
      · simp only [VR, VT] at hx; subst hx
        simp only [Option.some.injEq] at h; subst h
        simp only [Op.eqGuardIn, Sem.run_bind, run_underlying T.und, Result.andThen_ok]
        cases td <;> simp
      · cases h

/-- A value's make. -/
inductive Mk where | int | str | inil | agg | oth
  deriving DecidableEq

def mkX : Value → Mk
  | .int .. => .int
  | .string _ => .str
  | .nilIface => .inil
  | .agg _ => .agg
  | _ => .oth

def mkV : V → Mk
  | .int .. => .int
  | .str _ => .str
  | .inil => .inil
  | .agg _ => .agg
  | _ => .oth

def plainX : Value → Bool
  | .float .. | .complex .. => false
  | _ => true

theorem mk_of {v : V} {x : Value} (h : VR c v x) (hv : v.isAny = false) : mkX x = mkV v ∧ plainX x = true := by
  cases v <;> simp only [V.isAny, reduceCtorEq] at hv <;> simp only [VR, VT, PR, SR] at h
  all_goals first
    | (subst h; exact ⟨rfl, rfl⟩)
    | (obtain ⟨_, _, _, _, _, rfl, _⟩ := h; exact ⟨rfl, rfl⟩)
    | (obtain ⟨_, _, rfl, _⟩ := h; exact ⟨rfl, rfl⟩)
    | (obtain ⟨_, rfl, _⟩ := h; exact ⟨rfl, rfl⟩)
    | (obtain ⟨_, rfl⟩ := h; exact ⟨rfl, rfl⟩)
    | (split at h <;> first | exact h.elim | (obtain ⟨⟨_, rfl⟩, _⟩ := h; exact ⟨rfl, rfl⟩) | (obtain ⟨⟨_, _, rfl, _⟩, _⟩ := h; exact ⟨rfl, rfl⟩))

theorem binOp_eq_of {t : TypeId} {X Y : Value} (h : ¬ (mkX X = .int ∧ mkX Y = .int)) (h' : ¬ (mkX X = .str ∧ mkX Y = .str)) (hx : plainX X = true) :
    binOp .eql t X Y = (do pure (.bool (← Op.equal t X Y)) : Sem Value) ∧ binOp .neq t X Y = (do pure (.bool (!(← Op.equal t X Y))) : Sem Value) := by
  cases X <;> first
    | (simp [plainX] at hx; done)
    | (cases Y <;> first | exact ⟨rfl, rfl⟩ | (simp [mkX] at h; done) | (simp [mkX] at h'; done))

theorem eqGuard_of {op : BinOp} {t : TypeId} {x y : Operand} {X Y : Value} (h : ¬ (mkX X = .inil ∧ mkX Y = .inil)) (h' : ¬ (mkX X = .agg ∧ mkX Y = .agg)) :
    eqGuard op t x y X Y = pure () := by
  cases X <;> cases Y <;> first | (cases op <;> rfl) | (simp [mkX] at h; done) | (simp [mkX] at h'; done)

theorem eqGuard_other {op : BinOp} {t : TypeId} {x y : Operand} {X Y : Value} (h : op ≠ .eql) (h' : op ≠ .neq) : eqGuard op t x y X Y = pure () := by
  cases op <;> first | rfl | exact absurd rfl h | exact absurd rfl h'

theorem guardOk_spec (F : Fit D) {t : Nat} {x y : Operand} {a b : V} {X Y : Value} (ha : VR c a X) (hb : VR c b Y) (hxa : a.isAny = false) (hyb : b.isAny = false)
    (h : guardOk D t (isConstOp x) (isConstOp y) a b = true) (op : BinOp) : (eqGuard op t x y X Y).run D.P w = .ok () w := by
  obtain ⟨h1, _⟩ := mk_of ha hxa
  obtain ⟨h2, _⟩ := mk_of hb hyb
  unfold guardOk at h
  split at h
  · simp only [VR, VT] at ha hb
    subst ha; subst hb
    by_cases hop : op = .eql ∨ op = .neq
    · simp only [Bool.or_eq_true, beq_iff_eq] at h
      unfold eqGuard
      rw [if_neg (by rcases hop with rfl | rfl <;> simp)]
      rcases h with (h | h) | h
      · cases x <;> simp [isConstOp] at h
        simp
      · cases y <;> simp [isConstOp] at h
        simp
      · have hg := guardT_spec F Op.maxDepth t .inil .inil .nilIface .nilIface false (by simp only [VR, VT]) (by simp only [VR, VT]) h (w := w) (c := c)
        simp [hg]
    · rw [eqGuard_other (fun e => hop (.inl e)) (fun e => hop (.inr e))]
      rfl
  · rename_i xs ys
    simp only [VR] at ha hb
    obtain ⟨X', rfl, ha⟩ := ha
    obtain ⟨Y', rfl, hb⟩ := hb
    split at h
    · rename_i ti hT
      obtain ⟨i, td, z, T⟩ := F.tf hT
      by_cases hop : op = .eql ∨ op = .neq
      · unfold eqGuard
        rw [if_neg (by rcases hop with rfl | rfl <;> simp)]
        simp only [Bool.or_eq_true, Bool.not_eq_true', beq_iff_eq] at h
        by_cases hgd : ti.guard = true
        · have hg := guardT_spec F Op.maxDepth t (.agg xs) (.agg ys) (.agg X') (.agg Y') false (by simp only [VR]; exact ⟨_, rfl, ha⟩) (by simp only [VR]; exact ⟨_, rfl, hb⟩) (h.resolve_left (by simp [hgd])) (w := w) (c := c)
          have hgd' := T.guard
          rw [hgd] at hgd'
          simp [← hgd', hg]
        · have hgd' := T.guard
          simp only [Bool.not_eq_true] at hgd
          rw [hgd] at hgd'
          simp [← hgd']
      · rw [eqGuard_other (fun e => hop (.inl e)) (fun e => hop (.inr e))]
        rfl
    · cases h
  · rename_i hn1 hn2
    rw [eqGuard_of]
    · rfl
    · rw [h1, h2]
      rintro ⟨h3, h4⟩
      cases a <;> simp [mkV] at h3
      cases b <;> simp [mkV] at h4
      exact hn1 rfl rfl
    · rw [h1, h2]
      rintro ⟨h3, h4⟩
      cases a <;> simp [mkV] at h3
      cases b <;> simp [mkV] at h4
      exact hn2 _ _ rfl rfl

end
end Go.Pe

namespace Go.Pe
section
variable {D : Dt} {c : Cx} {s : St} {w : World}

theorem strAdd_spec (a b : List UInt8) (h : a.length + b.length ≤ strMax) : (Op.stringOp .add ⟨a.toArray⟩ ⟨b.toArray⟩).run D.P w = .ok (.string ⟨(a ++ b).toArray⟩) w := by
  have := run_string_add_sum (P := D.P) w (⟨a.toArray⟩ : ByteArray) ⟨b.toArray⟩ (by simp [ByteArray.size, strMax] at h ⊢; omega)
  rw [this, ByteArray.mk_append_mk]

theorem binT_spec (F : Fit D) {op : BinOp} {t : Nat} {ox oy : Operand} {x y : V} {X Y : Value} (hx : VR c x X) (hy : VR c y Y) {v : V}
    (h : binT D op t (isConstOp ox) (isConstOp oy) x y = some v) :
    ∃ z, (do eqGuard op t ox oy X Y; binOp op t X Y : Sem Value).run D.P w = .ok z w ∧ VR c v z := by
  unfold binT at h
  split at h
  · rename_i k a k' b
    simp only [VR, VT] at hx hy; subst hx; subst hy
    split at h
    · cases h
    · rename_i h0
      simp only [Option.some.injEq] at h; subst h
      refine ⟨_, ?_, by simp only [VR, VT]; rfl⟩
      simp only [Sem.run_bind, eqGuard_at_int, Sem.run_pure, Result.andThen_ok, binOp, Op.shift]
      rw [if_neg h0]
      rfl
  · rename_i k a k' b
    simp only [VR, VT] at hx hy; subst hx; subst hy
    split at h
    · cases h
    · rename_i h0
      simp only [Option.some.injEq] at h; subst h
      refine ⟨_, ?_, by simp only [VR, VT]; rfl⟩
      simp only [Sem.run_bind, eqGuard_at_int, Sem.run_pure, Result.andThen_ok, binOp, Op.shift]
      rw [if_neg h0]
      rfl
  · simp only [VR, VT] at hx hy; subst hx; subst hy
    split at h
    · rename_i hk
      subst hk
      exact wrapOp_spec h t ox oy
    · cases h
  · rename_i a b
    simp only [VR, VT] at hx hy; subst hx; subst hy
    split at h
    · rename_i hl
      simp only [Option.some.injEq] at h; subst h
      refine ⟨.string ⟨(a ++ b).toArray⟩, ?_, by simp only [VR, VT]⟩
      simp only [Sem.run_bind, eqGuard_at_string, Sem.run_pure, Result.andThen_ok, binOp]
      exact strAdd_spec a b hl
    · cases h
  · rename_i a b
    simp only [VR, VT] at hx hy; subst hx; subst hy
    simp only [Option.some.injEq] at h; subst h
    refine ⟨_, ?_, by simp only [VR, VT]; rfl⟩
    simp only [Sem.run_bind, eqGuard_at_string, Sem.run_pure, Result.andThen_ok, binOp, Op.stringOp, ByteArray.toList_eq]
  · rename_i a b
    simp only [VR, VT] at hx hy; subst hx; subst hy
    simp only [Option.some.injEq] at h; subst h
    refine ⟨_, ?_, by simp only [VR, VT]; rfl⟩
    simp only [Sem.run_bind, eqGuard_at_string, Sem.run_pure, Result.andThen_ok, binOp, Op.stringOp, ByteArray.toList_eq]
  · cases h
  · cases h
  · rename_i _ _ _ hn4 hn5 hn2 hn3
    split at h
    · rename_i hg
      cases he : eqT D Op.maxDepth t x y with
      | none => simp [he] at h
      | some b =>
        simp only [he, Option.map_some, Option.some.injEq] at h; subst h
        have hxa : x.isAny = false := by cases x <;> first | rfl | exact absurd rfl hn4
        have hya : y.isAny = false := by cases y <;> first | rfl | exact absurd rfl hn5
        obtain ⟨m1, p1⟩ := mk_of hx hxa
        obtain ⟨m2, _⟩ := mk_of hy hya
        refine ⟨.bool b, ?_, by simp only [VR, VT]⟩
        have hb := (binOp_eq_of (t := t) (X := X) (Y := Y) (by
          rw [m1, m2]; rintro ⟨h1, h2⟩
          cases x <;> simp [mkV] at h1
          cases y <;> simp [mkV] at h2
          exact hn2 _ _ _ _ rfl rfl) (by
          rw [m1, m2]; rintro ⟨h1, h2⟩
          cases x <;> simp [mkV] at h1
          cases y <;> simp [mkV] at h2
          exact hn3 _ _ rfl rfl) p1).1
        simp only [Sem.run_bind, guardOk_spec F hx hy hxa hya hg, Result.andThen_ok, hb, Op.equal, eqT_spec F _ t x y X Y b hx hy he, Sem.run_pure]
    · cases h
  · rename_i _ _ _ hn4 hn5 hn2 hn3
    split at h
    · rename_i hg
      cases he : eqT D Op.maxDepth t x y with
      | none => simp [he] at h
      | some b =>
        simp only [he, Option.map_some, Option.some.injEq] at h; subst h
        have hxa : x.isAny = false := by cases x <;> first | rfl | exact absurd rfl hn4
        have hya : y.isAny = false := by cases y <;> first | rfl | exact absurd rfl hn5
        obtain ⟨m1, p1⟩ := mk_of hx hxa
        obtain ⟨m2, _⟩ := mk_of hy hya
        refine ⟨.bool (!b), ?_, by simp only [VR, VT]⟩
        have hb := (binOp_eq_of (t := t) (X := X) (Y := Y) (by
          rw [m1, m2]; rintro ⟨h1, h2⟩
          cases x <;> simp [mkV] at h1
          cases y <;> simp [mkV] at h2
          exact hn2 _ _ _ _ rfl rfl) (by
          rw [m1, m2]; rintro ⟨h1, h2⟩
          cases x <;> simp [mkV] at h1
          cases y <;> simp [mkV] at h2
          exact hn3 _ _ rfl rfl) p1).2
        simp only [Sem.run_bind, guardOk_spec F hx hy hxa hya hg, Result.andThen_ok, hb, Op.equal, eqT_spec F _ t x y X Y b hx hy he, Sem.run_pure]
    · cases h
  · cases h

theorem unT_spec {op : UnOp} {x : V} {X : Value} (hx : VR c x X) {v : V} (h : unT op x = some v) : ∃ z, (Op.unary op X).run D.P w = .ok z w ∧ VR c v z := by
  unfold unT at h
  split at h
  · rename_i k n
    simp only [VR, VT] at hx; subst hx
    simp only [Option.some.injEq] at h; subst h
    exact ⟨.int k (k.wrap (0 - n)), rfl, by simp only [VR, VT]⟩
  · rename_i b
    simp only [VR, VT] at hx; subst hx
    simp only [Option.some.injEq] at h; subst h
    exact ⟨.bool (!b), rfl, by simp only [VR, VT]⟩
  · cases h

theorem loadCells_of {P : Program} {w : World} {b o : Nat} {l : Array Value} {e : TypeId} {fr : Nat × Nat} (hb : w.heap[b]? = some (.cells l e fr)) (n : Nat) (h : o + n ≤ l.size) :
    (loadCells ⟨b, o, none⟩ n).run P w = .ok ((l.toList.drop o).take n).toArray w := by
  have hl : ((l.toList.drop o).take n).length = n := by simp; omega
  have := run_loadCells_list (P := P) w ⟨b, o, none⟩ ((l.toList.drop o).take n) (fun j v hj => by
    rw [add_none, cell_of w rfl hb]
    simp only [List.getElem?_take, List.getElem?_drop] at hj
    split at hj
    · rw [← Array.getElem?_toList]; exact hj
    · cases hj)
  rw [hl] at this
  exact this

theorem zip_bytes (b : List UInt8) : VRs c (b.map fun u => .int .u8 u.toNat) (b.map fun u => Value.int .u8 u.toNat) := by
  induction b with
  | nil => simp only [List.map_nil, VRs]
  | cons u b ih =>
    simp only [List.map_cons, VRs]
    exact ⟨by simp only [VR, VT], ih⟩

theorem srcT_spec (K : Ok c) (hs : s.mem = c.m) (hw : w.heap = c.h) {sz : Nat} {x : V} {X : Value} (hx : VR c x X) {n : Nat} {cs : List V} (h : srcT s sz x = some (n, cs)) :
    ∃ xs : List Value, VRs c cs xs ∧ cs.length = n * sz ∧ (Builtin.lenOf X).run D.P w = .ok n w ∧
      ∀ k, k ≤ n → ∀ w', w'.heap = w.heap → (Builtin.firstCells sz k X).run D.P w' = .ok (xs.take (k * sz)).toArray w' := by
  unfold srcT at h
  split at h
  · simp only [Option.some.injEq, Prod.mk.injEq] at h
    obtain ⟨rfl, rfl⟩ := h
    simp only [VR, VT] at hx; subst hx
    exact ⟨[], by simp only [VRs], by simp, by simp [Builtin.lenOf], fun k hk w' _ => by simp [Builtin.firstCells]⟩
  · rename_i full m ds
    split at h
    · rename_i hl
      simp only [Option.some.injEq, Prod.mk.injEq] at h
      obtain ⟨rfl, rfl⟩ := h
      simp only [VR, VT] at hx
      obtain ⟨a, cap, rfl, h1, _, h3⟩ := hx
      rcases h3 with h3 | ⟨b, o, l, e, fr, rfl, h4, h5, h6⟩
      · subst h3
        refine ⟨[], by simp only [VRs], hl, by simp [Builtin.lenOf], fun k hk w' _ => ?_⟩
        have hk0 : k * sz = 0 := by
          have : k * sz ≤ m * sz := Nat.mul_le_mul_right _ hk
          simp at hl
          omega
        cases a with
        | none => simp [Builtin.firstCells]
        | some a => simp [Builtin.firstCells, hk0, loadCells, loadCellsFrom]
      · have hlen := VTs.len _ _ h6
        simp at hlen
        refine ⟨_, VRs.ofT _ _ h6, hl, by simp [Builtin.lenOf], fun k hk w' hw' => ?_⟩
        have hkm : k * sz ≤ m * sz := Nat.mul_le_mul_right _ hk
        by_cases hz : k * sz = 0
        · simp [Builtin.firstCells, hz, loadCells, loadCellsFrom]
        · simp only [Builtin.firstCells]
          rw [loadCells_of (by rw [hw', hw]; exact h5) _ (by omega), List.take_take, Nat.min_eq_left (by omega)]
    · cases h
  · rename_i i e off m z
    split at h
    · rename_i hz
      subst hz
      split at h
      · rename_i ds hl
        cases hsub : sub ds off (m * z) with
        | none => simp [hsub] at h
        | some l' =>
          simp only [hsub, Option.map_some, Option.some.injEq, Prod.mk.injEq] at h
          obtain ⟨rfl, rfl⟩ := h
          obtain ⟨q1, q2, q3⟩ := sub_spec hsub
          obtain ⟨h1, h2⟩ := live_spec hl
          rw [hs] at h1
          obtain ⟨l, el, h3, h4⟩ := K.blk i _ h1
          have hlen := VRs.len _ _ h4
          simp at hlen
          simp only [VR, SR, h1] at hx
          obtain ⟨hfit, a, cap, rfl, hcap, haddr, hroom⟩ := hx.2.2 h2
          refine ⟨(l.toList.drop off).take (m * z), ?_, q3, by simp [Builtin.lenOf], fun k hk w' hw' => ?_⟩
          · have := VRs.take _ _ (m * z) (VRs.drop _ _ off h4)
            rw [← q2] at this
            refine (congrArg (VRs c _) ?_).mp this
            rw [List.drop_take, List.take_take, Nat.min_eq_left (by omega)]
          · have hkm : k * z ≤ m * z := Nat.mul_le_mul_right _ hk
            simp only [Builtin.firstCells]
            by_cases hz : k * z = 0
            · simp [hz, loadCells, loadCellsFrom]
            · have hpos : 0 < cap := by
                rcases Nat.eq_zero_or_pos k with h | h
                · simp [h] at hz
                · omega
              rw [haddr hpos, loadCells_of (by rw [hw', hw]; exact h3) _ (by omega), List.take_take, Nat.min_eq_left hkm]
      · cases h
    · cases h
  · rename_i b
    split at h
    · rename_i hz
      subst hz
      simp only [Option.some.injEq, Prod.mk.injEq] at h
      obtain ⟨rfl, rfl⟩ := h
      simp only [VR, VT] at hx; subst hx
      refine ⟨b.map fun u => Value.int .u8 u.toNat, zip_bytes b, by simp, by simp [Builtin.lenOf, ByteArray.size], fun k hk w' _ => ?_⟩
      simp only [Builtin.firstCells, Sem.run_pure]
      congr 1
      apply Array.ext'
      have he : ((⟨b.toArray⟩ : ByteArray).extract 0 k).data.toList = b.take k := by
        have := Lib.extract_data (⟨b.toArray⟩ : ByteArray) 0 k
        simpa using this
      simp only [Array.toList_map, he, Nat.mul_one, List.map_take]
    · cases h
  · cases h

theorem bytesL_spec : ∀ (cs : List V) (xs : List Value) (bs : List UInt8), VRs c cs xs → bytesL cs = some bs → ∃ ns : List Int, xs = ns.map (Value.int .u8) ∧ bs = ns.map fun n => UInt8.ofNat n.toNat
  | [], [], bs, _, h => by
    simp only [bytesL, Option.some.injEq] at h; subst h
    exact ⟨[], rfl, rfl⟩
  | [], _ :: _, _, H, _ => by simp only [VRs] at H
  | _ :: _, [], _, H, _ => by simp only [VRs] at H
  | v :: cs, x :: xs, bs, H, h => by
    simp only [VRs] at H
    simp only [bytesL] at h
    split at h
    · rename_i b hb
      split at h
      · rename_i bs' hbs
        simp only [Option.some.injEq] at h; subst h
        obtain ⟨ns, rfl, rfl⟩ := bytesL_spec cs xs bs' H.2 hbs
        unfold byte? at hb
        split at hb
        · rename_i n
          simp only [Option.some.injEq] at hb; subst hb
          have := H.1
          simp only [VR, VT] at this; subst this
          exact ⟨n :: ns, rfl, rfl⟩
        · cases hb
      · cases h
    · cases h

theorem foldl_push : ∀ (ns : List Int) (r : ByteArray), ns.foldl (fun r n => r.push (UInt8.ofNat n.toNat)) r = ⟨(r.data.toList ++ ns.map fun n => UInt8.ofNat n.toNat).toArray⟩
  | [], r => by simp
  | n :: ns, r => by
    simp only [List.foldl_cons, foldl_push ns, List.map_cons]
    congr 2
    simp [ByteArray.push]

theorem convT_spec (F : Fit D) (K : Ok c) (hs : s.mem = c.m) (hw : w.heap = c.h) {src dst : Nat} {x : V} {X : Value} (hx : VR c x X) {v : V} (h : convT D s src dst x = some v) :
    ∃ z, (convert src dst X).run D.P w = .ok z w ∧ VR c v z := by
  unfold convT at h
  split at h
  · rename_i a b ha hb
    obtain ⟨i1, d1, z1, T1⟩ := F.tf ha
    obtain ⟨i2, d2, z2, T2⟩ := F.tf hb
    split at h
    · rename_i k0 k k' n e1 e2
      rw [T1.d] at e1; rw [T2.d] at e2
      obtain rfl := toTD_int e1; obtain rfl := toTD_int e2
      simp only [VR, VT] at hx; subst hx
      simp only [Option.some.injEq] at h; subst h
      refine ⟨.int k (k.wrap n), ?_, by simp only [VR, VT]⟩
      simp [convert, run_underlying T1.und, run_underlying T2.und, Conv.intToInt]
    · rename_i l e1 e2
      rw [T1.d] at e1; rw [T2.d] at e2
      obtain rfl := toTD_str e1; obtain rfl := toTD_str e2
      simp only [VR, VT] at hx; subst hx
      simp only [Option.some.injEq] at h; subst h
      refine ⟨.string ⟨l.toArray⟩, ?_, by simp only [VR, VT]⟩
      simp [convert, run_underlying T1.und, run_underlying T2.und]
    · rename_i x _ _ _ e e1 e2
      rw [T1.d] at e1; rw [T2.d] at e2
      obtain rfl := toTD_slice e1; obtain rfl := toTD_str e2
      split at h
      · cases h
      rename_i hstr
      split at h
      · rename_i te hte
        obtain ⟨i3, d3, z3, T3⟩ := F.tf hte
        split at h
        · rename_i hc
          simp only [Bool.and_eq_true, decide_eq_true_eq] at hc
          have hd3 := hc.1
          rw [T3.d] at hd3
          obtain rfl := toTD_int hd3
          split at h
          · rename_i n cs hsrc
            obtain ⟨xs, q1, q2, q3, q4⟩ := srcT_spec (D := D) K hs hw hx hsrc
            cases hbs : bytesL cs with
            | none => simp [hbs] at h
            | some bs =>
              simp only [hbs, Option.map_some, Option.some.injEq] at h; subst h
              obtain ⟨ns, hns, hbs'⟩ := bytesL_spec cs xs bs q1 hbs
              have hq := q4 n (Nat.le_refl _) w rfl
              have hxl := VRs.len _ _ q1
              rw [Nat.mul_one, List.take_of_length_le (by omega)] at hq
              refine ⟨.string ⟨bs.toArray⟩, ?_, by simp only [VR, VT]⟩
              cases x <;> simp only [srcT, reduceCtorEq] at hsrc <;> simp only [VR, VT, SR] at hx
              case sn =>
                subst hx
                simp only [Option.some.injEq, Prod.mk.injEq] at hsrc
                obtain ⟨rfl, rfl⟩ := hsrc
                simp only [bytesL, Option.some.injEq] at hbs; subst hbs
                rw [run_convert_bytes_string w src dst e _ _ _ T1.und T3.und T2.und]
                simp [Conv.bytesToString]
                rfl
              case st full m ds =>
                obtain ⟨a, cap, rfl, _⟩ := hx
                rw [run_convert_bytes_string w src dst e _ _ _ T1.und T3.und T2.und]
                split at hsrc
                · simp only [Option.some.injEq, Prod.mk.injEq] at hsrc
                  obtain ⟨rfl, rfl⟩ := hsrc
                  cases a with
                  | none =>
                    simp only [Builtin.firstCells, Sem.run_pure, Result.ok.injEq, and_true] at hq
                    have hxs : xs = [] := by
                      have := congrArg Array.toList hq
                      simpa using this.symm
                    have hns0 : ns = [] := by
                      rw [hxs] at hns
                      cases ns with
                      | nil => rfl
                      | cons u us => cases hns
                    rw [hns0] at hbs'
                    subst hbs'
                    simp [Conv.bytesToString]
                    rfl
                  | some a =>
                    simp only [Builtin.firstCells, Nat.mul_one] at hq
                    rw [run_bytesToString w a m cap ns (by rw [hq, hns]), foldl_push, ← hbs']
                    simp
                · cases hsrc
              case so i e' off m z =>
                split at hx
                · obtain ⟨⟨a, cap, rfl, _⟩, _⟩ := hx
                  rw [run_convert_bytes_string w src dst e _ _ _ T1.und T3.und T2.und]
                  split at hsrc
                  · split at hsrc
                    · rename_i ds _
                      cases hsub : sub ds off (m * 1) with
                      | none => rw [hsub] at hsrc; cases hsrc
                      | some l' =>
                        rw [hsub] at hsrc
                        simp only [Option.map_some, Option.some.injEq, Prod.mk.injEq] at hsrc
                        obtain ⟨rfl, rfl⟩ := hsrc
                        simp only [Builtin.firstCells, Nat.mul_one] at hq
                        rw [run_bytesToString w a m cap ns (by rw [hq, hns]), foldl_push, ← hbs']
                        simp
                    · cases hsrc
                  · cases hsrc
                · exact hx.elim
              case str l => exact absurd rfl hstr
          · cases h
        · cases h
      · cases h
    · cases h
  · cases h

end
end Go.Pe

namespace Go.Pe
section
variable {D : Dt} {c : Cx} {s : St} {w : World}

def OptR (c : Cx) : Option V → Option Value → Prop
  | none, none => True
  | some v, some x => VR c v x
  | _, _ => False

theorem bound_run {x : V} {X : Value} (hx : VR c x X) {n : Int} (k : IntKind) (h : x = .int k n) (h0 : 0 ≤ n) (y : Nat) (hy : n.toNat ≤ y) (code : BoundsCode) :
    (Instr.sliceBound X y code).run D.P w = .ok n.toNat w := by
  subst h
  simp only [VR, VT] at hx; subst hx
  have : 0 ≤ n ∧ n ≤ y := ⟨h0, by omega⟩
  simp [Instr.sliceBound, asIntOf, this]

theorem getB_spec {v : Option V} {d r : Option Nat} (h : getB v d = some r) :
    (v = none ∧ r = d) ∨ ∃ k n, v = some (.int k n) ∧ 0 ≤ n ∧ r = some n.toNat := by
  unfold getB at h
  split at h
  · simp only [Option.some.injEq] at h; exact .inl ⟨rfl, h.symm⟩
  · rename_i k n
    split at h
    · rename_i h0
      simp only [Option.some.injEq] at h
      exact .inr ⟨k, n, rfl, h0, h.symm⟩
    · cases h
  · cases h

theorem bounds_spec {len most cap : Nat} {lo hi mx : Option V} {LO HI MX : Option Value} (hlo : OptR c lo LO) (hhi : OptR c hi HI) (hmx : OptR c mx MX) {l h : Nat} {m : Option Nat}
    (hb : boundsT len most lo hi mx = some (l, h, m)) (hcap : most ≤ cap) (isS : Bool) :
    (Instr.sliceBounds isS len cap LO HI MX).run D.P w = .ok (l, h, m.getD cap) w ∧ l ≤ h ∧ h ≤ most ∧ (∀ m', m = some m' → h ≤ m' ∧ m' ≤ most) ∧ (m = none ↔ mx = none) := by
  unfold boundsT at hb
  split at hb
  · rename_i m' h' l' e1 e2 e3
    split at hb
    · rename_i hc
      simp only [Option.some.injEq, Prod.mk.injEq] at hb
      obtain ⟨rfl, rfl, rfl⟩ := hb
      simp only [Bool.and_eq_true, decide_eq_true_eq] at hc
      obtain ⟨⟨hc1, hc2⟩, hc3⟩ := hc
      have g1 := getB_spec e1
      have g2 := getB_spec e2
      have g3 := getB_spec e3
      have hL : ∀ (code : BoundsCode), (match LO with | some v => Instr.sliceBound v h' code | none => pure 0 : Sem Nat).run D.P w = .ok l' w := fun code => by
        rcases g3 with ⟨rfl, g⟩ | ⟨k, n, rfl, h0, g⟩
        · cases LO with
          | none => simp only [Option.some.injEq] at g; subst g; rfl
          | some _ => exact hlo.elim
        · cases LO with
          | none => exact hlo.elim
          | some X =>
            simp only [Option.some.injEq] at g; subst g
            exact bound_run (D := D) hlo k rfl h0 h' hc1 code
      rcases g1 with ⟨rfl, rfl⟩ | ⟨k, n, rfl, h0, rfl⟩
      · cases MX with
        | some _ => exact hmx.elim
        | none =>
          refine ⟨?_, hc1, hc2, (fun _ e => by cases e), by simp⟩
          have hH : ∀ (code : BoundsCode), (match HI with | some v => Instr.sliceBound v cap code | none => pure len : Sem Nat).run D.P w = .ok h' w := fun code => by
            rcases g2 with ⟨rfl, g⟩ | ⟨k, n, rfl, h0, g⟩
            · cases HI with
              | none => simp only [Option.some.injEq] at g; subst g; rfl
              | some _ => exact hhi.elim
            · cases HI with
              | none => exact hhi.elim
              | some X =>
                simp only [Option.some.injEq] at g; subst g
                exact bound_run (D := D) hhi k rfl h0 cap (by omega) code
          have hH' := hH (if isS then .sliceAcap else .sliceAlen)
          have hL' := hL .sliceB
          cases HI <;> cases LO <;> simp_all [Instr.sliceBounds]
      · cases MX with
        | none => exact hmx.elim
        | some X =>
          simp only [mxOk, Bool.and_eq_true, decide_eq_true_eq] at hc3
          obtain ⟨⟨hc3, hc4⟩, hc5⟩ := hc3
          refine ⟨?_, hc1, hc2, fun m' e => by simp only [Option.some.injEq] at e; subst e; exact ⟨hc3, hc4⟩, by simp⟩
          have hM := bound_run (D := D) (w := w) hmx k rfl h0 cap (by omega) (if isS then .slice3Acap else .slice3Alen)
          rcases g2 with ⟨rfl, g⟩ | ⟨k2, n2, rfl, h2, g⟩
          · simp at hc5
          · cases HI with
            | none => exact hhi.elim
            | some Y =>
              simp only [Option.some.injEq] at g; subst g
              have hH := bound_run (D := D) (w := w) hhi k2 rfl h2 n.toNat hc3 .slice3B
              have hL' := hL .slice3C
              cases LO <;> simp_all [Instr.sliceBounds]
    · cases hb
  · cases hb

theorem sliceT_spec (F : Fit D) (K : Ok c) (hs : s.mem = c.m) {t : Nat} {x : V} {X : Value} (hx : VR c x X) {lo hi mx : Option V} {LO HI MX : Option Value} (hlo : OptR c lo LO) (hhi : OptR c hi HI) (hmx : OptR c mx MX)
    {v : V} (h : sliceT D s t x lo hi mx = some v) : ∃ y, (Instr.sliceAt t X LO HI MX).run D.P w = .ok y w ∧ VR c v y := by
  unfold sliceT at h
  split at h
  · rename_i b
    split at h
    · rename_i hstr
      have hund := isStr_spec F hstr
      split at h
      · rename_i l h' hb
        simp only [Option.some.injEq] at h; subst h
        simp only [VR, VT] at hx; subst hx
        obtain ⟨h1, h2, h3, _, h5⟩ := bounds_spec (D := D) (w := w) hlo hhi hmx hb (Nat.le_refl _) false
        have hmn : MX = none := by
          have := h5.1 rfl
          subst this
          cases MX with
          | none => rfl
          | some _ => exact hmx.elim
        subst hmn
        refine ⟨.string ((⟨b.toArray⟩ : ByteArray).extract l h'), ?_, ?_⟩
        · have hsz : (⟨b.toArray⟩ : ByteArray).size = b.length := by simp [ByteArray.size]
          simp only [Instr.sliceAt, Sem.run_bind, run_underlying hund, Result.andThen_ok, Instr.slice, hsz]
          simp [h1]
        · simp only [VR, VT, Value.string.injEq]
          have := Lib.extract_data (⟨b.toArray⟩ : ByteArray) l h'
          generalize (⟨b.toArray⟩ : ByteArray).extract l h' = q at this
          obtain ⟨⟨q⟩⟩ := q
          simp at this
          simp [this]
      · cases h
    · cases h
  · rename_i full n cs
    split at h
    · rename_i e te l h' m hsl hb
      split at h
      · rename_i hc
        simp only [Bool.and_eq_true, decide_eq_true_eq] at hc
        simp only [Option.some.injEq] at h; subst h
        obtain ⟨hund, i2, d2, z2, T2⟩ := sl_spec F hsl
        simp only [VR, VT] at hx ⊢
        obtain ⟨a, cap, rfl, q1, q2, q3⟩ := hx
        obtain ⟨h1, h2, h3, h4, h5⟩ := bounds_spec (D := D) (w := w) hlo hhi hmx hb q1 true
        have hmc : h' ≤ m.getD cap := by
          cases m with
          | none => simp; omega
          | some m' => exact (h4 m' rfl).1
        refine ⟨.slice (if m.getD cap = l then a else a.map (·.add (l * te.size))) (h' - l) (m.getD cap - l), ?_, _, _, rfl, by omega, ?_, ?_⟩
        · simp only [Instr.sliceAt, Sem.run_bind, run_underlying hund, Result.andThen_ok, Instr.slice, h1, T2.run_size w]
          simp
        · intro hf
          simp only [Bool.or_eq_true, beq_iff_eq, Bool.and_eq_true] at hf
          rcases hf with hf | ⟨⟨hf1, hf2⟩, hf3⟩
          · rw [hf]; rfl
          · rw [hf3]
            have := q2 hf1
            simp only [Option.getD_none]
            omega
        · by_cases he : m.getD cap = l
          · left
            have : h' - l = 0 := by omega
            simp [this]
          · rcases q3 with q3 | ⟨b, o, ll, el, fr, rfl, q4, q5, q6⟩
            · left; subst q3; simp
            · right
              refine ⟨b, o + l * te.size, ll, el, fr, by simp [he, add_none], q4, q5, ?_⟩
              have hv := VTs.take _ _ ((h' - l) * te.size) (VTs.drop _ _ (l * te.size) q6)
              refine (congrArg (VTs c.h c.I _) ?_).mp hv
              have hle : (h' - l) * te.size ≤ cs.length - l * te.size := by
                rw [hc.1, ← Nat.sub_mul]
                exact Nat.mul_le_mul_right _ (by omega)
              simp only [List.length_take, List.length_drop, List.drop_take, List.take_take, List.drop_drop]
              first | done | (congr 1; omega)
      · cases h
    · cases h
  · split at h
    · rename_i p q hsl hb
      obtain ⟨e, te⟩ := p
      obtain ⟨l, h', m⟩ := q
      simp only [Option.some.injEq] at h; subst h
      obtain ⟨hund, i2, d2, z2, T2⟩ := sl_spec F hsl
      simp only [VR, VT] at hx; subst hx
      obtain ⟨h1, h2, h3, h4, h5⟩ := bounds_spec (D := D) (w := w) hlo hhi hmx hb (Nat.le_refl _) true
      refine ⟨.slice none 0 0, ?_, by simp only [VR, VT]⟩
      have hm : m.getD 0 = 0 := by
        cases m with
        | none => rfl
        | some m' => have := h4 m' rfl; simp; omega
      simp only [Instr.sliceAt, Sem.run_bind, run_underlying hund, Result.andThen_ok, Instr.slice, h1, T2.run_size w]
      have e1 : l = 0 := by omega
      have e2 : h' = 0 := by omega
      simp [hm, e1, e2]
    · cases h
  · rename_i i e' off n z
    split at h
    · rename_i e te l h' hsl hb
      split at h
      · rename_i hc
        simp only [Bool.and_eq_true, decide_eq_true_eq] at hc
        simp only [Option.some.injEq] at h; subst h
        obtain ⟨hund, i2, d2, z2, T2⟩ := sl_spec F hsl
        simp only [VR, SR] at hx ⊢
        split at hx
        · rename_i cs hm
          obtain ⟨⟨a, cap, rfl, q0⟩, q1, q2⟩ := hx
          obtain ⟨h1, h2, h3, h4, h5⟩ := bounds_spec (D := D) (w := w) hlo hhi hmx hb q0 true
          refine ⟨.slice (some (if cap = l then a else a.add (l * te.size))) (h' - l) (cap - l), ?_, ⟨_, _, rfl, by omega⟩, q1, fun hl => ?_⟩
          · simp only [Instr.sliceAt, Sem.run_bind, run_underlying hund, Result.andThen_ok, Instr.slice, h1, T2.run_size w, Option.getD_none]
            by_cases he : cap = l <;> simp [he]
          · obtain ⟨q3, a', cap', q4, q5, q6, q7⟩ := q2 hl
            simp only [Value.slice.injEq, Option.some.injEq] at q4
            obtain ⟨rfl, _, rfl⟩ := q4
            have hz := hc.1
            subst hz
            have key : l * te.size + (h' - l) * te.size = h' * te.size := by rw [← Nat.add_mul]; congr 1; omega
            have key2 : h' * te.size ≤ n * te.size := Nat.mul_le_mul_right _ h3
            have key3 : l * te.size + (cap - l) * te.size = cap * te.size := by rw [← Nat.add_mul]; congr 1; omega
            refine ⟨by omega, _, _, rfl, by omega, fun hpos => ?_, fun ll el fr hll => ?_⟩
            · rw [if_neg (by omega), q6 (by omega), add_none]
            · have := q7 ll el fr hll
              omega
        · exact hx.elim
      · cases h
    · cases h
  · rename_i i e' off
    split at h
    · rename_i n e te har
      split at h
      · rename_i l h' hb
        split at h
        · rename_i hc
          simp only [Bool.and_eq_true, decide_eq_true_eq] at hc
          simp only [Option.some.injEq] at h; subst h
          obtain ⟨hund, i2, d2, z2, T2⟩ := ar_spec F har
          obtain ⟨h1, h2, h3, h4, h5⟩ := bounds_spec (D := D) (w := w) hlo hhi hmx hb (Nat.le_refl _) false
          obtain ⟨⟨hc1, hc2⟩, hc3⟩ := hc
          obtain ⟨cs, hlive⟩ := Option.isSome_iff_exists.1 hc3
          obtain ⟨hm, he⟩ := live_spec hlive
          rw [hs] at hm
          obtain ⟨ll0, el0, hh0, hv0⟩ := K.blk i _ hm
          have hlen := VRs.len _ _ hv0
          simp at hlen
          simp only [VR, PR, SR, hm] at hx ⊢
          obtain ⟨⟨a, rfl⟩, q1, q2⟩ := hx
          have q4 := q2 he
          simp only [Value.pointer.injEq, Option.some.injEq] at q4
          have hrun : (Instr.sliceAt t (.pointer (some a)) LO HI MX).run D.P w = .ok (.slice (some (if n = l then a else a.add (l * te.size))) (h' - l) (n - l)) w := by
            simp only [Instr.sliceAt, Sem.run_bind, run_underlying hund, Result.andThen_ok, Instr.sureAddr, Sem.run_pure, h1, T2.run_size w, Option.getD_none]
          refine ⟨_, hrun, ⟨_, _, rfl, by omega⟩, q1, fun hl => ?_⟩
          have key : l * te.size + (h' - l) * te.size = h' * te.size := by rw [← Nat.add_mul]; congr 1; omega
          have key2 : h' * te.size ≤ n * te.size := Nat.mul_le_mul_right _ h3
          have key3 : l * te.size + (n - l) * te.size = n * te.size := by rw [← Nat.add_mul]; congr 1; omega
          refine ⟨by omega, _, _, rfl, by omega, fun hpos => ?_, fun ll el fr hll => ?_⟩
          · rw [if_neg (by omega), q4, add_none]
          · rw [hh0] at hll
            cases hll
            omega
        · cases h
      · cases h
    · cases h
  · cases h

end
end Go.Pe
