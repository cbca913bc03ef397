/- The pure interpreter of the dump's language and the proof that the model does what it does, texts A to K, for any program. -/
import Derived.Laws.Rows
import Derived.Laws.CopyRow
import Derived.Laws.Cells
import Derived.RangeFuncRecord
import Derived.Calls
import Derived.Below
import Derived.KernelRfl
import Derived.Laws.NewFold
import Derived.Laws.BytesString
import Derived.Room.Entries
import Derived.Deep.AppendSrc
section
/- The pure interpreter and its simulation, part 1. -/
namespace Go.PI

/-- Pure values. 's': a scalar, itself. 'lst e n cs x': a slice of n elements of type e that nobody writes: its cells; x: its capacity is its length. 'lptr': the address of cells that nobody writes. 'row', 'ptr', 'map', 'yld': by their number in the pure heap. 'own': a closed call's result: a slice that is its own. -/
inductive PV where
  | s (v : Value)
  | lst (e n : Nat) (cs : List PV) (x : Bool)
  | lptr (e : Nat) (cs : List PV)
  | row (r off len : Nat)
  | ptr (r off : Nat)
  | map (r : Nat)
  | yld (r : Nat)
  | fn (f : FuncId) (first caps : List PV)
  | agg (cs : List PV)
  | tup (vs : List PV)
  | own (e n : Nat) (cs : List PV)
  deriving Inhabited

/-- Objects of the pure heap: cells of a variable (row = none) or of a slice's array (its element's size), whether nobody writes them any more; a map; a loop over a function; what is gone. -/
inductive HO where
  | cells (e : Nat) (cs : List PV) (row : Option Nat) (sealed : Bool)
  | map (es : List (Int × PV))
  | loop (st : LoopState) (pend : Option Code) (g : List PV) (params : List Tmp) (assign body : Code)
  | dead
  deriving Inhabited

/-- How code is left. -/
inductive Ex where
  | normal
  | exit (id : Nat)
  | goto (l : Nat)
  | ret
  deriving Inhabited, DecidableEq

abbrev Out := Ex × List PV × List HO
abbrev Rec := Code → List PV → List HO → Option Out

structure Cfg where
  P : Program
  fine : FuncId → Bool
  inl : FuncId → Bool
  ext : FuncId → List PV → Option PV
  glob : Nat → Option (Nat × List PV)
  hext : FuncId → List PV → List HO → Option (List PV × List HO) := fun _ _ _ => none

def undefP : PV := .tup []
/-- A value that stands for itself: no address in it. -/
def scal : Value → Bool
  | .bool _ | .int _ _ | .string _ | .nilFunc | .slice none 0 0 | .pointer none | .nilIface => true
  | _ => false
def nilS : PV := .s (.slice none 0 0)
/-- What stands for anything. -/
def junkP : PV := .own 0 0 []
def ofConst (v : Value) : PV := if scal v then .s v else junkP
def isCell : PV → Bool
  | .s v => scal v
  | .lst .. | .lptr .. | .row .. | .ptr .. | .map _ | .yld _ | .fn .. => true
  | _ => false
def pcells : PV → List PV
  | .agg cs => cs
  | p => [p]
def lstN (e n : Nat) (cs : List PV) : PV := if n = 0 then .lst 0 0 [] false else .lst e n cs false
def mapO (f : PV → Option PV) : List PV → Option (List PV)
  | [] => some []
  | p :: ps => match f p with
    | some q => match mapO f ps with
      | some qs => some (q :: qs)
      | none => none
    | none => none
def splice (cs : List PV) (off : Nat) (new : List PV) : List PV := cs.take off ++ (new ++ cs.drop (off + new.length))
def intP (k : IntKind) (n : Int) : PV := .s (.int k n)
def i64P (n : Int) : PV := .s (.int .i64 n)
def boolP (b : Bool) : PV := .s (.bool b)
def pint : PV → Option Int
  | .s (.int _ n) => some n
  | _ => none

section
variable (C : Cfg)

def szOf (t : TypeId) : Option Nat := (C.P.info? t).map (·.size)
def bytesOf (t : TypeId) : Option Nat := (C.P.info? t).map (·.bytes)
def aggO (t : TypeId) : Option Bool := match C.P.underlying t with | some (.struct _) | some (.array _ _) => some true | some _ => some false | none => none
def zeroV (t : TypeId) : Option (List Value) := ((C.P.info? t).bind (·.zero)).map (·.cells.toList)
def zeroP (t : TypeId) : Option (List PV) := match zeroV C t with
  | some cs => if cs.all scal then some (cs.map PV.s) else none
  | none => none
def zeroS (t : TypeId) : Option PV := match (C.P.info? t).bind (·.zero) with
  | some v => if scal v then some (.s v) else none
  | none => none
def elemP (t : TypeId) : Option TypeId := match C.P.underlying t with | some (.slice e) => some e | _ => none
def arrP (t : TypeId) : Option (Nat × TypeId) := match C.P.underlying t with | some (.array n e) => some (n, e) | _ => none
def kindP (t : TypeId) : Option IntKind := match C.P.underlying t with | some (.int k) => some k | _ => none
def boolT (t : TypeId) : Bool := match C.P.underlying t with | some .bool => true | _ => false
def strT (t : TypeId) : Bool := match C.P.underlying t with | some .string => true | _ => false
def fieldP (s : TypeId) (f : Nat) : Option (Nat × TypeId) := match C.P.underlying s with
  | some (.struct fs) => match fs[f]? with | some d => some (d.offset, d.type) | none => none
  | _ => none

def opnd (g : List PV) : Operand → PV
  | .tmp t => g.getD t undefP
  | .const v => ofConst v
  | .global n => match C.glob n with | some (e, cs) => .lptr e cs | none => junkP
  | .func f => .fn f [] []

/-- What a slice reads as: its element's type, how many, their cells. -/
def slOf (H : List HO) : PV → Option (Nat × Nat × List PV)
  | .s (.slice none 0 0) => some (0, 0, [])
  | .lst e n cs _ => some (e, n, cs)
  | .row r off len => match H[r]? with
    | some (.cells e cs (some sz) _) => if (off + len) * sz ≤ cs.length then some (e, len, (cs.drop (off * sz)).take (len * sz)) else none
    | _ => none
  | _ => none

/-- A value without numbers of the heap: what it reads as. -/
def close (H : List HO) : Nat → PV → Option PV
  | 0, _ => none
  | d + 1, p => match p with
    | .s v => match v with
      | .slice none 0 0 => some (.lst 0 0 [] false)
      | v => some (.s v)
    | .lst e n cs _ => some (lstN e n cs)
    | .lptr e cs => some (.lptr e cs)
    | .row r off len => match slOf H (.row r off len) with
      | some (e, n, cs) => (mapO (close H d) cs).map (lstN e n)
      | none => none
    | .ptr r off => match H[r]? with
      | some (.cells e cs none _) => (mapO (close H d) (cs.drop off)).map (.lptr e)
      | _ => none
    | .fn f first caps => match mapO (close H d) first with
      | some a => (mapO (close H d) caps).map (.fn f a)
      | none => none
    | .agg cs => (mapO (close H d) cs).map .agg
    | .tup vs => (mapO (close H d) vs).map .tup
    | _ => none

def loadC (t : TypeId) (cs : List PV) : Option PV := match szOf C t, aggO C t with
  | some n, some true => if n ≤ cs.length then some (.agg (cs.take n)) else none
  | some n, some false => if n = 1 then cs.head? else none
  | _, _ => none
def loadP (H : List HO) (t : TypeId) : PV → Option PV
  | .lptr _ cs => loadC C t cs
  | .ptr r off => match H[r]? with
    | some (.cells _ cs _ _) => loadC C t (cs.drop off)
    | _ => none
  | _ => none
def storeP (H : List HO) (t : TypeId) (a v : PV) : Option (List HO) := match a with
  | .ptr r off => match H[r]? with
    | some (.cells e cs row false) =>
      if szOf C t = some (pcells v).length ∧ 0 < (pcells v).length ∧ (pcells v).all isCell = true ∧ off + (pcells v).length ≤ cs.length then some (H.set r (.cells e (splice cs off (pcells v)) row false)) else none
    | _ => none
  | _ => none

def fieldAddrP (s : TypeId) (p : PV) (f : Nat) : Option PV := match fieldP C s f with
  | some (o, t) => if szOf C t = some 0 ∨ szOf C t = none then none else match p with
    | .ptr r off => some (.ptr r (off + o))
    | .lptr e cs => if o ≤ cs.length then some (.lptr e (cs.drop o)) else none
    | _ => none
  | none => none
def partC (t : TypeId) (cs : List PV) (off : Nat) : Option PV := loadC C t (cs.drop off)
def fieldV (s : TypeId) (p : PV) (f : Nat) : Option PV := match fieldP C s f with
  | some (o, t) => match p with
    | .agg cs => partC C t cs o
    | _ => none
  | none => none
def indexAddrP (H : List HO) (t : TypeId) (p i : PV) : Option PV := match pint i with
  | some n => if n < 0 then none else
    match elemP C t with
    | some e => match szOf C e with
      | some sz => match p with
        | .lst e' len cs _ => if n < len ∧ (n.toNat * sz ≤ cs.length) then some (.lptr e' (cs.drop (n.toNat * sz))) else none
        | .row r off len => match H[r]? with
          | some (.cells _ _ (some sz') _) => if sz' = sz ∧ n < len then some (.ptr r ((off + n.toNat) * sz)) else none
          | _ => none
        | _ => none
      | none => none
    | none => match arrP C t with
      | some (len, e) => match szOf C e with
        | some sz => if n < len then (match p with
          | .ptr r off => some (.ptr r (off + n.toNat * sz))
          | .lptr e' cs => if n.toNat * sz ≤ cs.length then some (.lptr e' (cs.drop (n.toNat * sz))) else none
          | _ => none) else none
        | none => none
      | none => none
  | none => none
def indexV (t : TypeId) (p i : PV) : Option PV := match pint i with
  | some n => if n < 0 then none else match arrP C t with
    | some (len, e) => match szOf C e, p with
      | some sz, .agg cs => if n < len then partC C e cs (n.toNat * sz) else none
      | _, _ => none
    | none => none
  | none => none

def bound (v : Option PV) (d : Nat) : Option Nat := match v with
  | none => some d
  | some p => match pint p with
    | some n => if 0 ≤ n then some n.toNat else none
    | none => none
def sliceP (H : List HO) (t : TypeId) (p : PV) (lo hi mx : Option PV) : Option PV := match elemP C t with
  | some e => match szOf C e with
    | some sz => match p with
      | .s (.slice none 0 0) => match bound lo 0, bound hi 0, mx with
        | some 0, some 0, none => some nilS
        | _, _, _ => none
      | .lst e' n cs x => match bound lo 0, bound hi n, mx with
        | some l, some h, none => if l ≤ h ∧ h ≤ n then some (.lst e' (h - l) ((cs.drop (l * sz)).take ((h - l) * sz)) (x && h == n)) else none
        | some l, some h, some m => match bound (some m) 0 with
          | some m => if l ≤ h ∧ h ≤ m ∧ m ≤ n ∧ hi.isSome then some (.lst e' (h - l) ((cs.drop (l * sz)).take ((h - l) * sz)) (h == m)) else none
          | none => none
        | _, _, _ => none
      | .row r off n => match H[r]?, bound lo 0, bound hi n, mx with
        | some (.cells _ _ (some sz') _), some l, some h, none => if sz' = sz ∧ l ≤ h ∧ h ≤ n then some (.row r (off + l) (h - l)) else none
        | _, _, _, _ => none
      | _ => none
    | none => none
  | none => none

def u8s : List PV → Option (List UInt8)
  | [] => some []
  | .s (.int .u8 n) :: ps => (u8s ps).map (UInt8.ofNat n.toNat :: ·)
  | _ :: _ => none
def convP (H : List HO) (src dst : TypeId) (p : PV) : Option PV := match kindP C dst with
  | some k => match p with
    | .s (.int _ n) => if (kindP C src).isSome then some (.s (.int k (k.wrap n))) else none
    | _ => none
  | none => if strT C dst then match elemP C src with
      | some e => if kindP C e = some .u8 then match slOf H p with
          | some (_, n, cs) => if cs.length = n then (u8s cs).map fun l => .s (.string ⟨l.toArray⟩) else none
          | none => none
        else none
      | none => none
    else none

def bitsV (op : BinOp) (k : IntKind) (x y : Int) : Option Int :=
  match op with
  | .and => some (k.wrap ((BitVec.ofInt k.bits x &&& BitVec.ofInt k.bits y).toNat))
  | .or => some (k.wrap ((BitVec.ofInt k.bits x ||| BitVec.ofInt k.bits y).toNat))
  | .xor => some (k.wrap ((BitVec.ofInt k.bits x ^^^ BitVec.ofInt k.bits y).toNat))
  | .andNot => some (k.wrap ((BitVec.ofInt k.bits x &&& ~~~(BitVec.ofInt k.bits y)).toNat))
  | _ => none
def intBin (op : BinOp) (k : IntKind) (x y : Int) : Option PV := match op with
  | .add => some (intP k (k.wrap (x + y)))
  | .sub => some (intP k (k.wrap (x - y)))
  | .mul => some (intP k (k.wrap (x * y)))
  | .quo => if y = 0 then none else some (intP k (k.wrap (x.tdiv y)))
  | .rem => if y = 0 then none else some (intP k (x.tmod y))
  | .and | .or | .xor | .andNot => (bitsV op k x y).map (intP k)
  | .eql => some (boolP (x == y))
  | .neq => some (boolP (x != y))
  | .lss => some (boolP (decide (x < y)))
  | .leq => some (boolP (decide (x ≤ y)))
  | .gtr => some (boolP (decide (x > y)))
  | .geq => some (boolP (decide (x ≥ y)))
  | _ => none
def shiftV (op : BinOp) (k : IntKind) (x y : Int) : Option PV := if y < 0 then none else match op with
  | .shl => some (intP k (k.wrap (x * 2 ^ min y.toNat k.bits)))
  | .shr => some (intP k (x.fdiv (2 ^ min y.toNat k.bits)))
  | _ => none
/-- Is a slice nil? Where that is to be told. -/
def nilness : PV → Option Bool
  | .s (.slice none 0 0) => some true
  | .lst _ n _ _ => if n = 0 then none else some false
  | .row _ _ n => if n = 0 then none else some false
  | _ => none
def binP (op : BinOp) (t : TypeId) (x y : PV) : Option PV := match x, y with
  | .s (.int k a), .s (.int k' b) =>
    if op = .shl ∨ op = .shr then shiftV op k a b else if k = k' then intBin op k a b else none
  | .s (.string a), .s (.string b) => match op with
    | .eql => some (boolP (a.toList == b.toList))
    | .neq => some (boolP (!(a.toList == b.toList)))
    | _ => none
  | .s (.bool a), .s (.bool b) => if boolT C t then (match op with
    | .eql => some (boolP (a == b))
    | .neq => some (boolP (!(a == b)))
    | _ => none) else none
  | x, .s (.slice none 0 0) => if (elemP C t).isSome then (match op with
    | .eql => (nilness x).map boolP
    | .neq => (nilness x).map fun b => boolP (!b)
    | _ => none) else none
  | _, _ => none
def unP (op : UnOp) (x : PV) : Option PV := match op, x with
  | .not, .s (.bool b) => some (boolP (!b))
  | .neg, .s (.int k n) => some (intP k (k.wrap (0 - n)))
  | .xor, .s (.int k n) => (bitsV .xor k (if k.signed then -1 else k.max) n).map (intP k)
  | _, _ => none

def fillP (place : Nat → Option (Nat × Nat)) (cells : List PV) : List (Nat × PV) → Option (List PV)
  | [] => some cells
  | (i, v) :: rest => match place i with
    | none => none
    | some (off, size) => if (pcells v).length = size ∧ off + size ≤ cells.length ∧ (pcells v).all isCell = true then fillP place (splice cells off (pcells v)) rest else none
def sizesP : List Field → Option (List (Nat × Nat))
  | [] => some []
  | f :: fs => match szOf C f.type, sizesP fs with
    | some n, some l => some ((f.offset, n) :: l)
    | _, _ => none
def placesP (t : TypeId) : Option (List (Nat × Nat)) := match C.P.underlying t with
  | some (.struct fs) => sizesP C fs.toList
  | _ => none
def buildP (t : TypeId) (parts : List (Nat × PV)) : Option PV := match zeroP C t with
  | some z => match placesP C t with
    | some pl => (fillP (fun i => pl[i]?) z parts).map .agg
    | none => match arrP C t with
      | some (_, e) => match szOf C e with
        | some sz => (fillP (fun i => some (i * sz, sz)) z parts).map .agg
        | none => none
      | none => none
  | none => none
def repl (n : Nat) (z : List PV) : List PV := (List.replicate n z).flatten
def room : Nat := 2 ^ 46

/-- What an operation that writes nothing that was there comes to: its value, and what it lays anew. -/
def qop (o : Oper) (g : List PV) (H : List HO) : Option (PV × List HO) :=
  let one (p : Option PV) : Option (PV × List HO) := p.map fun v => (v, [])
  match o.op with
  | .move x => one (some (opnd C g x))
  | .assign x => one (some (opnd C g x))
  | .pick c a b => match opnd C g c with
    | .s (.bool t) => one (some (if t then opnd C g a else opnd C g b))
    | _ => none
  | .alloc e => (zeroP C e).map fun z => (.ptr H.length 0, [.cells e z none false])
  | .box e x => if (pcells (opnd C g x)).all isCell then some (.ptr H.length 0, [.cells e (pcells (opnd C g x)) none false]) else none
  | .build t parts => one (buildP C t (parts.toList.map fun (i, x) => (i, opnd C g x)))
  | .buildSlice t len parts => match elemP C t with
    | some e => match szOf C e, zeroP C e with
      | some sz, some z => if len * sz ≤ 2 ^ 24 ∧ 0 < sz ∧ z.length = sz then (match fillP (fun i => some (i * sz, sz)) (repl len z) (parts.toList.map fun (i, x) => (i, opnd C g x)) with
        | some cs => some (.row H.length 0 len, [.cells e cs (some sz) false])
        | none => none) else none
      | _, _ => none
    | none => none
  | .load t a => one (loadP C H t (opnd C g a))
  | .nilCheck x => match opnd C g x with
    | .ptr r off => one (some (.ptr r off))
    | .lptr e cs => one (some (.lptr e cs))
    | _ => none
  | .binOp op t x y _ => one (binP C op t (opnd C g x) (opnd C g y))
  | .unOp op _ x => one (unP op (opnd C g x))
  | .convert src dst x => one (convP C H src dst (opnd C g x))
  | .sliceToArrayPointer t x => match arrP C t with
    | some (n, _) => match opnd C g x with
      | .lst e m cs _ => if n ≤ m ∧ 0 < m then one (some (.lptr e cs)) else none
      | _ => none
    | none => none
  | .makeFunc f first caps => match f with
    | .func f => one (some (.fn f (first.toList.map (opnd C g)) (caps.toList.map (opnd C g))))
    | _ => none
  | .makeMap t none => match C.P.underlying t with
    | some (.map _ _) => some (.map H.length, [.map []])
    | _ => none
  | .makeMap t (some x) => match C.P.underlying t, pint (opnd C g x) with
    | some (.map _ _), some _ => some (.map H.length, [.map []])
    | _, _ => none
  | .makeSlice t l c => match elemP C t with
    | some e => match szOf C e, bytesOf C e, zeroP C e, opnd C g l, opnd C g c with
      | some sz, some b, some z, .s (.int .i64 n), .s (.int .i64 m) => if n = m ∧ 0 ≤ n ∧ b * n.toNat ≤ room ∧ n.toNat ≤ room ∧ 0 < sz ∧ z.length = sz then some (.row H.length 0 n.toNat, [.cells e (repl n.toNat z) (some sz) false]) else none
      | _, _, _, _, _ => none
    | none => none
  | .slice t x lo hi mx => one (sliceP C H t (opnd C g x) (lo.map (opnd C g)) (hi.map (opnd C g)) (mx.map (opnd C g)))
  | .fieldAddr s x f => one (fieldAddrP C s (opnd C g x) f)
  | .field s x f => one (fieldV C s (opnd C g x) f)
  | .indexAddr t x i => one (indexAddrP C H t (opnd C g x) (opnd C g i))
  | .index t x i => one (indexV C t (opnd C g x) (opnd C g i))
  | .extract t i => match opnd C g t with
    | .tup vs => one (vs[i]?)
    | _ => none
  | .call c => match c.callee with
    | .builtin .len => match c.argTypes[0]?, c.args[0]? with
      | some t, some x => if (elemP C t).isSome then (match opnd C g x with
          | .s (.slice none 0 0) => one (some (i64P 0))
          | .lst _ n _ _ => one (some (i64P n))
          | .row _ _ n => one (some (i64P n))
          | _ => none)
        else match arrP C t with
          | some (n, _) => one (some (i64P n))
          | none => none
      | _, _ => none
    | .builtin .cap => match c.argTypes[0]?, c.args[0]? with
      | some t, some x => if (elemP C t).isSome then (match opnd C g x with
          | .s (.slice none 0 0) => one (some (i64P 0))
          | _ => none) else none
      | _, _ => none
    | .builtin .max => match c.args.toList.map (opnd C g) with
      | [.s (.int k x), .s (.int _ y)] => one (some (intP k (if y > x then y else x)))
      | _ => none
    | .builtin .min => match c.args.toList.map (opnd C g) with
      | [.s (.int k x), .s (.int _ y)] => one (some (intP k (if y < x then y else x)))
      | _ => none
    | _ => none
  | _ => none

/-- Does a value lead to cells of type e that nobody writes? -/
def hasE (e : Nat) : PV → Bool
  | .lst e' _ cs _ => e' == e || hasL e cs
  | .lptr e' cs => e' == e || hasL e cs
  | .fn _ a b => hasL e a || hasL e b
  | .agg cs => hasL e cs
  | .tup vs => hasL e vs
  | .own _ _ cs => hasL e cs
  | _ => false
  where hasL (e : Nat) : List PV → Bool
  | [] => false
  | p :: ps => hasE e p || hasL e ps

def sealO (q : PV) : HO → HO
  | .cells e cs row sealed => .cells e cs row (sealed || hasE e q)
  | o => o
def sealH (H : List HO) (q : PV) : List HO := H.map (sealO q)
/-- Nothing is to be sealed. -/
def calmO (q : PV) : HO → Bool
  | .cells e _ _ sealed => sealed || !hasE e q
  | _ => true
def calm (H : List HO) (q : PV) : Bool := H.all (calmO q)

/-- A closed call's results are received: what is its own becomes a row. -/
def recv1 (m : Nat) : PV → Option (PV × List HO)
  | .own e n cs => match szOf C e with
    | some sz => if 0 < sz ∧ cs.length = n * sz then some (.row m 0 n, [.cells e cs (some sz) false]) else none
    | none => none
  | q => some (q, [])
def recvL (m : Nat) : List PV → Option (List PV × List HO)
  | [] => some ([], [])
  | q :: qs => match recv1 C m q with
    | some (v, new) => match recvL (m + new.length) qs with
      | some (vs, news) => some (v :: vs, new ++ news)
      | none => none
    | none => none
def recv (m : Nat) : PV → Option (PV × List HO)
  | .tup qs => (recvL C m qs).map fun (vs, new) => (.tup vs, new)
  | q => recv1 C m q

/-- Nothing of another result leads to cells of type e. -/
def offOwn (H : List HO) (e : Nat) (q : PV) : Bool := (match q with
  | .row r _ _ => match H[r]? with
    | some (.cells e' _ _ _) => e' != e
    | _ => true
  | _ => true) && match close H 6 q with
    | some c => !hasE e c
    | none => false
/-- A result, closed: a row that nothing else of the results leads to is handed on as its own. 'others': the other results. -/
def closeRes (H : List HO) (t : TypeId) (others : List PV) (p : PV) : Option PV := match p with
  | .s v => match v with
    | .slice none 0 0 => match elemP C t with
      | some e => some (.own e 0 [])
      | none => some (.lst 0 0 [] false)
    | v => some (.s v)
  | .row r off len => match H[r]? with
    | some (.cells e _ (some sz) false) => match slOf H (.row r off len) with
      | some (_, _, cs) => match mapO (close H 5) cs with
        | some cs' => if others.all (offOwn H e) && !hasE.hasL e cs' && (szOf C e == some sz) then some (.own e len cs') else some (lstN e len cs')
        | none => none
      | none => none
    | _ => close H 6 (.row r off len)
  | .tup _ => none
  | p => close H 6 p
def others (l : List PV) (i : Nat) : List PV := l.take i ++ l.drop (i + 1)
def closeAll (H : List HO) (ts : List TypeId) (vs : List PV) : Nat → List PV → Option (List PV)
  | _, [] => some []
  | i, p :: ps => match closeRes C H (ts.getD i 0) (others vs i) p with
    | some q => (closeAll H ts vs (i + 1) ps).map (q :: ·)
    | none => none

def resVar (g : List PV) (H : List HO) : ResultVar → Option PV
  | .tmp t => some (g.getD t undefP)
  | .cell a t => loadP C H t (g.getD a undefP)
def mapRes (f : ResultVar → Option PV) : List ResultVar → Option (List PV)
  | [] => some []
  | x :: xs => match f x with
    | some q => (mapRes f xs).map (q :: ·)
    | none => none
def tupOf : List PV → PV
  | [p] => p
  | ps => .tup ps

variable (rec : Rec)
/-- A function's body is run in a heap: its results, as they are. -/
def bodyRun (f : FuncId) (args : List PV) (H : List HO) : Option (List PV × List HO) := match C.P.funcs[f]? with
  | some fn => match fn.body with
    | some c => if C.fine f then (match rec c (args ++ List.replicate (fn.ntmps - args.length) undefP) H with
      | some (x, g, H') => if x = .normal ∨ x = .ret then (mapRes (resVar C g H') fn.results.toList).map fun vs => (vs, H') else none
      | none => none) else none
    | none => none
  | none => none
/-- A call within the heap. -/
def icall (f : FuncId) (args : List PV) (H : List HO) : Option (PV × List HO) := (bodyRun C rec f args H).map fun (vs, H') => (tupOf vs, H')
/-- A closed call: closed arguments, a heap of its own, closed results. -/
def pcall (f : FuncId) (args : List PV) : Option PV := match C.ext f args with
  | some q => some q
  | none => match bodyRun C rec f args [], C.P.funcs[f]? with
    | some (vs, H'), some fn => (closeAll C H' fn.resultTypes.toList vs 0 vs).map tupOf
    | _, _ => none

def bind2 (g : List PV) : List Tmp → List PV → List PV
  | t :: ts, a :: as => bind2 (g.set t a) ts as
  | _, _ => g
def jumpOf : Ex → Option Code
  | .normal => none
  | .exit id => some (.exit id)
  | .goto l => some (.goto l)
  | .ret => some .ret
def exOf : Option Code → Option Ex
  | none => some .normal
  | some (.exit id) => some (.exit id)
  | some (.goto l) => some (.goto l)
  | some .ret => some .ret
  | _ => none
/-- yield is called. -/
def yieldP (r : Nat) (args : List PV) (H : List HO) : Option (PV × List HO) := match H[r]? with
  | some (.loop .ready _ g params assign body) =>
    if args.length = params.length then
      match rec assign (bind2 g params args) H with
      | some (.normal, g2, H2) => match H2[r]? with
        | some (.loop .ready p2 g3 ps3 as3 bo3) => match rec body g2 (H2.set r (.loop .busy p2 g3 ps3 as3 bo3)) with
          | some (x, _, H4) => match H4[r]? with
            | some (.loop _ _ g5 ps5 as5 bo5) => some (boolP (jumpOf x).isNone, H4.set r (.loop (if (jumpOf x).isNone then .ready else .done) (jumpOf x) g5 ps5 as5 bo5))
            | _ => none
          | none => none
        | _ => none
      | _ => none
    else none
  | _ => none

/-- A call of a function value. -/
def callV (f : PV) (args : List PV) (H : List HO) : Option (PV × List HO) := match f with
  | .fn k first caps =>
    if C.inl k then (match C.hext k (first ++ args ++ caps) H with
      | some (vs, H') => some (tupOf vs, H')
      | none => icall C rec k (first ++ args ++ caps) H)
    else match mapO (close H 6) (first ++ args ++ caps) with
      | some cargs => match pcall C rec k cargs with
        | some q => match recv C H.length q with
          | some (v, new) => some (v, sealH H q ++ new)
          | none => none
        | none => none
      | none => none
  | .yld r => yieldP rec r args H
  | _ => none
/-- A closed call among operations whose order is open. -/
def qcallV (f : PV) (args : List PV) (H : List HO) : Option (PV × List HO) := match f with
  | .fn k first caps =>
    if C.inl k then none
    else match mapO (close H 6) (first ++ args ++ caps) with
      | some cargs => match pcall C rec k cargs with
        | some q => if calm H q then recv C H.length q else none
        | none => none
      | none => none
  | _ => none

def setD (g : List PV) (d : Option Tmp) (v : PV) : List PV := match d with
  | some t => g.set t v
  | none => g

def appendP (ts : Array TypeId) (s x : PV) (H : List HO) : Option (PV × List HO) := match ts[0]? with
  | some t0 => match elemP C t0 with
    | some e => match szOf C e, bytesOf C e, zeroP C e with
      | some sz, some b, some z =>
        if 0 < sz ∧ z.length = sz then
          let ys : Option (Nat × List PV) := match (ts[1]?).bind (kindP C) with
            | some _ => match x with
              | .s (.int .i64 m) => if 0 ≤ m ∧ m.toNat ≤ room then some (m.toNat, repl m.toNat z) else none
              | _ => none
            | none => if ((ts[1]?).bind (elemP C)).isSome then (slOf H x).map fun (_, m, cs) => (m, cs) else none
          match ys with
          | some (m, new) => match s with
            | .s (.slice none 0 0) => if m = 0 then some (s, H) else if m * b ≤ room ∧ m ≤ room ∧ new.length = m * sz then some (.row H.length 0 m, H ++ [.cells e new (some sz) false]) else none
            | .lst e' n cs true => if e' = e ∨ n = 0 then (if m = 0 then some (s, H) else if (n + m) * b ≤ room ∧ n + m ≤ room ∧ new.length = m * sz ∧ cs.length = n * sz then some (.row H.length 0 (n + m), H ++ [.cells e (cs ++ new) (some sz) false]) else none) else none
            | .row r _ n => match H[r]?, slOf H s with
              | some (.cells e' _ (some sz') false), some (_, _, cs) => if e' = e ∧ sz' = sz ∧ (n + m) * b ≤ room ∧ n + m ≤ room ∧ new.length = m * sz ∧ cs.length = n * sz then some (.row H.length 0 (n + m), H.set r .dead ++ [.cells e (cs ++ new) (some sz) false]) else none
              | _, _ => none
            | _ => none
          | none => none
        else none
      | _, _, _ => none
    | none => none
  | none => none
def copyP (ts : Array TypeId) (d x : PV) (H : List HO) : Option (PV × List HO) := match d with
  | .row r off n => match H[r]?, slOf H x, (ts[0]?).bind (elemP C) with
    | some (.cells e cs (some sz) false), some (e', m, new), some e0 => if szOf C e0 = some sz ∧ (e' = e ∨ m = 0) ∧ new.length = m * sz ∧ (off + n) * sz ≤ cs.length then some (i64P (min m n : Nat), H.set r (.cells e (splice cs (off * sz) (new.take (min m n * sz))) (some sz) false)) else none
    | _, _, _ => none
  | _ => none
def clearP (ts : Array TypeId) (s : PV) (H : List HO) : Option (PV × List HO) := match (ts[0]?).bind (elemP C) with
  | some e0 => match s with
    | .s (.slice none 0 0) => some (undefP, H)
    | .row r off n => match H[r]?, szOf C e0, zeroP C e0 with
      | some (.cells e cs (some sz) false), some sz0, some z => if sz0 = sz ∧ z.length = sz ∧ 0 < sz ∧ (off + n) * sz ≤ cs.length then some (undefP, H.set r (.cells e (splice cs (off * sz) (repl n z)) (some sz) false)) else none
      | _, _, _ => none
    | _ => none
  | none => none
def findK (k : Int) : List (Int × PV) → Option PV
  | [] => none
  | (k', v) :: es => if k = k' then some v else findK k es
def putK (k : Int) (v : PV) : List (Int × PV) → List (Int × PV)
  | [] => [(k, v)]
  | (k', v') :: es => if k = k' then (k', v) :: es else (k', v') :: putK k v es
def mapElem (t : TypeId) : Option TypeId := match C.P.underlying t with
  | some (.map k e) => if kindP C k = some .i64 then some e else none
  | _ => none

def mcall (c : Call) (g : List PV) (H : List HO) : Option (PV × List HO) := match c.callee with
  | .builtin .append => match c.args.toList.map (opnd C g) with
    | [s, x] => appendP C c.argTypes s x H
    | _ => none
  | .builtin .copy => match c.args.toList.map (opnd C g) with
    | [d, x] => copyP C c.argTypes d x H
    | _ => none
  | .builtin .clear => match c.args.toList.map (opnd C g) with
    | [s] => clearP C c.argTypes s H
    | _ => none
  | .value f => callV C rec (opnd C g f) (c.args.toList.map (opnd C g)) H
  | _ => none
/-- What any other operation comes to. -/
def mop (o : Oper) (g : List PV) (H : List HO) : Option (PV × List HO) := match o.op with
  | .assign x => some (opnd C g x, H)
  | .store t a v => (storeP C H t (opnd C g a) (opnd C g v)).map fun H' => (undefP, H')
  | .lookup t m k true => match mapElem C t, opnd C g m, opnd C g k with
    | some e, .map r, .s (.int .i64 k) => match H[r]? with
      | some (.map es) => match findK k es with
        | some v => some (.tup [v, boolP true], H)
        | none => (zeroS C e).map fun v => (.tup [v, boolP false], H)
      | _ => none
    | _, _, _ => none
  | .mapUpdate t m k v => match mapElem C t, opnd C g m, opnd C g k with
    | some _, .map r, .s (.int .i64 k) => match H[r]? with
      | some (.map es) => some (undefP, H.set r (.map (putK k (opnd C g v) es)))
      | _ => none
    | _, _, _ => none
  | .call c => mcall C rec c g H
  | _ => none
def quiet (o : Oper) : Bool := match o.op with
  | .store .. | .lookup .. | .mapUpdate .. => false
  | .call c => match c.callee with
    | .builtin .append | .builtin .copy | .builtin .clear => false
    | .value f => match f with
      | .func _ => true
      | _ => false
    | _ => true
  | _ => true
/-- An operation whose order may be open. -/
def dop (o : Oper) (g : List PV) (H : List HO) : Option (PV × List HO) := match o.op with
  | .call c => match c.callee with
    | .value f => qcallV C rec (opnd C g f) (c.args.toList.map (opnd C g)) H
    | .builtin _ => qop C o g H
    | .invoke .. => none
  | _ => qop C o g H

def isRow : PV → Bool
  | .row .. => true
  | _ => false
/-- Does a value hold a slice that the heap may write? -/
def holdsRow : PV → Bool
  | .row .. => true
  | .agg cs => cs.any isRow
  | _ => false
/-- What is laid into a row or a map is written no more: it is closed first. -/
def frzT (k : Tmp) (g : List PV) (H : List HO) : Option (List PV × List HO) := if holdsRow (g.getD k undefP) then (close H 6 (g.getD k undefP)).map fun q => (g.set k q, sealH H q) else some (g, H)
def prepP (o : Oper) (g : List PV) (H : List HO) : Option (List PV × List HO) := match o.op with
  | .store _ a (.tmp k) => match opnd C g a with
    | .ptr r _ => match H[r]? with
      | some (.cells _ _ (some _) _) => frzT k g H
      | _ => some (g, H)
    | _ => some (g, H)
  | .mapUpdate _ _ _ (.tmp k) => frzT k g H
  | _ => some (g, H)
/-- Is an operation carried out? -/
def wantedP (ops : Array Oper) (o : Oper) (g : List PV) : Option Bool := match o.guard with
  | none => some true
  | some (j, want) => match (ops[j]?).bind (·.dst) with
    | some d => match g.getD d undefP with
      | .s (.bool b) => some (b == want)
      | .own _ _ _ => none
      | _ => some false
    | none => some false
def opStep (draw : Bool) (ops : Array Oper) (o : Oper) (g : List PV) (H : List HO) : Option (List PV × List HO) :=
  match wantedP ops o g with
  | some true =>
    if quiet o && draw then (match dop C rec o g H with
      | some (v, new) => some (setD g o.dst v, H ++ new)
      | none => none)
    else match qop C o g H with
      | some (v, new) => some (setD g o.dst v, H ++ new)
      | none => match prepP C o g H with
        | some (g1, H1) => match mop C rec o g1 H1 with
          | some (v, H') => some (setD g1 o.dst v, H')
          | none => none
        | none => none
  | some false => some (setD g o.dst undefP, H)
  | none => none
def opsRun (draw : Bool) (ops : Array Oper) : List Oper → List PV → List HO → Option (List PV × List HO)
  | [], g, H => some (g, H)
  | o :: os, g, H => match opStep C rec draw ops o g H with
    | some (g', H') => opsRun draw ops os g' H'
    | none => none

def boolOf : PV → Option Bool
  | .s (.bool b) => some b
  | _ => none
/-- One layer of code. -/
def code : Code → List PV → List HO → Option Out
  | .skip, g, H => some (.normal, g, H)
  | .label _, g, H => some (.normal, g, H)
  | .region _ ops draw, g, H => (opsRun C rec draw ops ops.toList g H).map fun (g', H') => (.normal, g', H')
  | .seq a b, g, H => match code a g H with
    | some (.normal, g', H') => code b g' H'
    | r => r
  | .cond c a b, g, H => match boolOf (opnd C g c) with
    | some true => code a g H
    | some false => code b g H
    | none => none
  | .block id b, g, H => match code b g H with
    | some (.exit id', g', H') => if id' = id then some (.normal, g', H') else some (.exit id', g', H')
    | r => r
  | .loop b, g, H => match code b g H with
    | some (.normal, g', H') => rec (.loop b) g' H'
    | r => r
  | .scope b, g, H => match code b g H with
    | some (.goto l, g', H') => match b with
      | .seq (.label l') _ => if l' = l then rec (.scope b) g' H' else none
      | _ => match findLabel b l with
        | some rest => rec (.scope (.seq (.label l) rest)) g' H'
        | none => some (.goto l, g', H')
    | r => r
  | .exit id, g, H => some (.exit id, g, H)
  | .goto l, g, H => some (.goto l, g, H)
  | .ret, g, H => some (.ret, g, H)
  | .rangeFunc f params assign body, g, H => match opnd C g f with
    | .fn k first caps => if C.inl k then
        match icall C rec k (first ++ [.yld H.length] ++ caps) (H ++ [.loop .ready none g params.toList assign body]) with
        | some (_, H2) => match H2[H.length]? with
          | some (.loop st pend g3 ps3 as3 bo3) => if st = .busy then none else match exOf pend with
            | some x => some (x, g, H2.set H.length (.loop .exhausted pend g3 ps3 as3 bo3))
            | none => none
          | _ => none
        | none => none
      else none
    | _ => none
  | .refuse _, _, _ => none
end
end Go.PI

end
section
/- The pure interpreter and its simulation, part 2. -/
set_option linter.unusedSimpArgs false
namespace Go.PI
section
variable (C : Cfg) {r : Rec} {rs : Nat → Rec} 

/-- From some number on. -/
def Evt (p : Nat → Prop) : Prop := ∃ K, ∀ k, K ≤ k → p k
theorem Evt.of {p : Nat → Prop} (h : ∀ k, p k) : Evt p := ⟨0, fun k _ => h k⟩
theorem Evt.and {p q : Nat → Prop} (h : Evt p) (h' : Evt q) : Evt fun k => p k ∧ q k := by
  obtain ⟨K, h⟩ := h
  obtain ⟨K', h'⟩ := h'
  exact ⟨max K K', fun k hk => ⟨h k (by omega), h' k (by omega)⟩⟩
theorem Evt.imp {p q : Nat → Prop} (h : Evt p) (h' : ∀ k, p k → q k) : Evt q := by
  obtain ⟨K, h⟩ := h
  exact ⟨K, fun k hk => h' k (h k hk)⟩
theorem Evt.imp2 {p q s : Nat → Prop} (h : Evt p) (h2 : Evt q) (h' : ∀ k, p k → q k → s k) : Evt s := (h.and h2).imp fun k hk => h' k hk.1 hk.2
theorem Evt.imp3 {p q s t : Nat → Prop} (h : Evt p) (h2 : Evt q) (h3 : Evt s) (h' : ∀ k, p k → q k → s k → t k) : Evt t := ((h.and h2).and h3).imp fun k hk => h' k hk.1.1 hk.1.2 hk.2

def Cont (r : Rec) (rs : Nat → Rec) : Prop := ∀ c g H o, r c g H = some o → Evt fun k => rs k c g H = some o

theorem bodyRun_cont (hr : Cont r rs) {f : FuncId} {args : List PV} {H : List HO} {o} (h : bodyRun C r f args H = some o) : Evt fun k => bodyRun C (rs k) f args H = some o := by
  unfold bodyRun at h ⊢
  split at h
  · rename_i fn hfn
    split at h
    · rename_i c hc
      split at h
      · rename_i hfi
        split at h
        · rename_i x g H' hx
          refine (hr _ _ _ _ hx).imp fun k hk => ?_
          simp only [hk, hfi, if_true]
          exact h
        · cases h
      · cases h
    · cases h
  · cases h
theorem icall_cont (hr : Cont r rs) {f : FuncId} {args : List PV} {H : List HO} {o} (h : icall C r f args H = some o) : Evt fun k => icall C (rs k) f args H = some o := by
  unfold icall at h ⊢
  obtain ⟨a, ha, hb⟩ := Option.map_eq_some_iff.1 h
  exact (bodyRun_cont C hr ha).imp fun k hk => by rw [hk]; simp [hb]
theorem pcall_cont (hr : Cont r rs) {f : FuncId} {args : List PV} {o} (h : pcall C r f args = some o) : Evt fun k => pcall C (rs k) f args = some o := by
  unfold pcall at h ⊢
  split at h
  · exact .of fun k => h
  · split at h
    · rename_i vs H' fn hb hf
      refine (bodyRun_cont C hr hb).imp fun k hk => ?_
      simp only [hk, hf]
      exact h
    · cases h
theorem yieldP_cont (hr : Cont r rs) {l : Nat} {args : List PV} {H : List HO} {o} (h : yieldP r l args H = some o) : Evt fun k => yieldP (rs k) l args H = some o := by
  unfold yieldP at h ⊢
  split at h
  · rename_i pend g params assign body hl
    split at h
    · rename_i hlen
      split at h
      · rename_i g2 H2 ha
        split at h
        · rename_i p2 g3 ps3 as3 bo3 h2
          split at h
          · rename_i x g4 H4 hb
            refine (hr _ _ _ _ ha).imp2 (hr _ _ _ _ hb) fun k hk hk2 => ?_
            simp only [hlen, if_true, hk, h2, hk2]
            exact h
          · cases h
        · cases h
      · cases h
    · cases h
  · cases h
theorem callV_cont (hr : Cont r rs) {f : PV} {args : List PV} {H : List HO} {o} (h : callV C r f args H = some o) : Evt fun k => callV C (rs k) f args H = some o := by
  unfold callV at h ⊢
  split at h
  · rename_i k first caps
    split at h
    · rename_i hi
      split at h
      · rename_i vs H' hx
        refine .of fun k => ?_
        simp only [hi, if_true, hx]
        exact h
      · rename_i hx
        refine (icall_cont C hr h).imp fun k hk => ?_
        simp only [hi, if_true, hx, hk]
    · rename_i hi
      split at h
      · rename_i cargs hm
        split at h
        · rename_i q hq
          refine (pcall_cont C hr hq).imp fun k hk => ?_
          simp only [hi, hk]
          exact h
        · cases h
      · cases h
  · exact yieldP_cont hr h
  · cases h
theorem qcallV_cont (hr : Cont r rs) {f : PV} {args : List PV} {H : List HO} {o} (h : qcallV C r f args H = some o) : Evt fun k => qcallV C (rs k) f args H = some o := by
  unfold qcallV at h ⊢
  split at h
  · rename_i k first caps
    split at h
    · cases h
    · rename_i hi
      split at h
      · rename_i cargs hm
        split at h
        · rename_i q hq
          refine (pcall_cont C hr hq).imp fun k hk => ?_
          simp only [hi, hk]
          exact h
        · cases h
      · cases h
  · cases h
theorem mcall_cont (hr : Cont r rs) {c : Call} {g : List PV} {H : List HO} {o} (h : mcall C r c g H = some o) : Evt fun k => mcall C (rs k) c g H = some o := by
  unfold mcall at h ⊢
  split at h
  · exact .of fun k => h
  · exact .of fun k => h
  · exact .of fun k => h
  · exact callV_cont C hr h
  · cases h
theorem mop_cont (hr : Cont r rs) {op : Oper} {g : List PV} {H : List HO} {o} (h : mop C r op g H = some o) : Evt fun k => mop C (rs k) op g H = some o := by
  unfold mop at h ⊢
  split at h
  · exact .of fun k => h
  · exact .of fun k => h
  · exact .of fun k => h
  · exact .of fun k => h
  · exact mcall_cont C hr h
  · cases h
theorem dop_cont (hr : Cont r rs) {op : Oper} {g : List PV} {H : List HO} {o} (h : dop C r op g H = some o) : Evt fun k => dop C (rs k) op g H = some o := by
  unfold dop at h ⊢
  split at h
  · split at h
    · exact qcallV_cont C hr h
    · exact .of fun k => h
    · exact .of fun k => h
  · exact .of fun k => h
theorem opStep_cont (hr : Cont r rs) {d : Bool} {ops : Array Oper} {op : Oper} {g : List PV} {H : List HO} {o} (h : opStep C r d ops op g H = some o) : Evt fun k => opStep C (rs k) d ops op g H = some o := by
  unfold opStep at h ⊢
  split at h
  · rename_i hw
    split at h
    · rename_i hq
      split at h
      · rename_i v new hv
        refine (dop_cont C hr hv).imp fun k hk => ?_
        simp only [hq, if_true, hk]
        exact h
      · cases h
    · rename_i hq
      split at h
      · rename_i v new hv
        refine .of fun k => ?_
        simp only [hq, if_true]
        exact h
      · rename_i hv
        split at h
        · rename_i g1 H1 hp
          split at h
          · rename_i v H' hm
            refine (mop_cont C hr hm).imp fun k hk => ?_
            simp only [hq, if_true, hp, hk]
            exact h
          · cases h
        · cases h
  · exact .of fun k => h
  · cases h
theorem opsRun_cont (hr : Cont r rs) {d : Bool} {ops : Array Oper} {o} : ∀ {l : List Oper} {g : List PV} {H : List HO}, opsRun C r d ops l g H = some o → Evt fun k => opsRun C (rs k) d ops l g H = some o
  | [], g, H, h => .of fun k => h
  | op :: l, g, H, h => by
    unfold opsRun at h ⊢
    split at h
    · rename_i g' H' hs
      refine (opStep_cont C hr hs).imp2 (opsRun_cont hr h) fun k hk hk2 => ?_
      simp only [hk]
      exact hk2
    · cases h
theorem code_cont (hr : Cont r rs) {o} : ∀ {c : Code} {g : List PV} {H : List HO}, code C r c g H = some o → Evt fun k => code C (rs k) c g H = some o := by
  intro c
  induction c generalizing o with
  | skip => intro g H h; exact .of fun k => h
  | label l => intro g H h; exact .of fun k => h
  | exit l => intro g H h; exact .of fun k => h
  | goto l => intro g H h; exact .of fun k => h
  | ret => intro g H h; exact .of fun k => h
  | refuse l => intro g H h; exact .of fun k => h
  | region id ops d =>
    intro g H h
    simp only [code] at h ⊢
    obtain ⟨a, ha, hb⟩ := Option.map_eq_some_iff.1 h
    exact (opsRun_cont C hr ha).imp fun k hk => by rw [hk]; simp [hb]
  | seq a b iha ihb =>
    intro g H h
    simp only [code] at h ⊢
    split at h
    · rename_i g' H' ha
      refine (iha ha).imp2 (ihb h) fun k hk hk2 => ?_
      simp only [hk]
      exact hk2
    · rename_i hne
      refine (iha h).imp fun k hk => ?_
      simp only [hk]
      split
      · rename_i g' H' he
        exact absurd h (by have := Option.some.inj he; rw [this]; exact fun hh => hne _ _ hh)
      · rfl
  | cond x a b iha ihb =>
    intro g H h
    simp only [code] at h ⊢
    split at h
    · exact iha h
    · exact ihb h
    · cases h
  | block id b ih =>
    intro g H h
    simp only [code] at h ⊢
    split at h
    · rename_i id' g' H' ha
      refine (ih ha).imp fun k hk => ?_
      simp only [hk]
      exact h
    · rename_i hne
      refine (ih h).imp fun k hk => ?_
      simp only [hk]
      split
      · rename_i id' g' H' he
        exact absurd h (by have := Option.some.inj he; rw [this]; exact fun hh => hne _ _ _ hh)
      · rfl
  | loop b ih =>
    intro g H h
    simp only [code] at h ⊢
    split at h
    · rename_i g' H' ha
      refine (ih ha).imp2 (hr _ _ _ _ h) fun k hk hk2 => ?_
      simp only [hk]
      exact hk2
    · rename_i hne
      refine (ih h).imp fun k hk => ?_
      simp only [hk]
      split
      · rename_i g' H' he
        exact absurd h (by have := Option.some.inj he; rw [this]; exact fun hh => hne _ _ hh)
      · rfl
  | scope b ih =>
    intro g H h
    simp only [code] at h ⊢
    split at h
    · rename_i l g' H' ha
      split at h
      · rename_i l' rest
        split at h
        · rename_i hl
          subst hl
          refine (ih ha).imp2 (hr _ _ _ _ h) fun k hk hk2 => ?_
          simp only [hk, if_true]
          exact hk2
        · cases h
      · rename_i hnl
        split at h
        · rename_i rest hl
          refine (ih ha).imp2 (hr _ _ _ _ h) fun k hk hk2 => ?_
          simp only [hk, hl]
          exact hk2
        · rename_i hl
          refine (ih ha).imp fun k hk => ?_
          simp only [hk, hl]
          exact h
    · rename_i hne
      refine (ih h).imp fun k hk => ?_
      simp only [hk]
      split
      · rename_i l g' H' he
        exact absurd h (by have := Option.some.inj he; rw [this]; exact fun hh => hne _ _ _ hh)
      · rfl
  | rangeFunc f params assign body iha ihb =>
    intro g H h
    simp only [code] at h ⊢
    split at h
    · rename_i k first caps hf
      split at h
      · rename_i hi
        split at h
        · rename_i v H2 hc
          refine (icall_cont C hr hc).imp fun k hk => ?_
          simp only [hf, hi, if_true, hk]
          exact h
        · cases h
      · cases h
    · cases h

/-- So many layers. -/
def run : Nat → Rec
  | 0 => fun _ _ _ => none
  | k + 1 => code C (run k)
theorem code_mono {r r' : Rec} (h : ∀ c g H o, r c g H = some o → r' c g H = some o) {c g H o} (hc : code C r c g H = some o) : code C r' c g H = some o := by
  obtain ⟨K, hK⟩ := code_cont (rs := fun _ => r') C (fun c g H o hh => .of fun _ => h c g H o hh) hc
  exact hK K (Nat.le_refl _)
theorem run_succ : ∀ k c g H o, run C k c g H = some o → run C (k + 1) c g H = some o
  | 0, _, _, _, _, h => by cases h
  | k + 1, c, g, H, o, h => code_mono C (run_succ k) h
theorem run_le {k k' : Nat} (hk : k ≤ k') {c g H o} (h : run C k c g H = some o) : run C k' c g H = some o := by
  induction hk with
  | refl => exact h
  | step _ ih => exact run_succ C _ _ _ _ _ ih
open Classical in
/-- As many layers as it takes. -/
noncomputable def lim : Rec := fun c g H => if h : ∃ o, ∃ k, run C k c g H = some o then some h.choose else none
theorem lim_iff {c g H o} : lim C c g H = some o ↔ ∃ k, run C k c g H = some o := by
  unfold lim
  constructor
  · intro h
    split at h
    · rename_i hh
      obtain ⟨k, hk⟩ := hh.choose_spec
      exact ⟨k, by rw [hk]; exact h⟩
    · cases h
  · rintro ⟨k, hk⟩
    rw [dif_pos ⟨o, k, hk⟩]
    have hh : ∃ o, ∃ k, run C k c g H = some o := ⟨o, k, hk⟩
    obtain ⟨k', hk'⟩ := hh.choose_spec
    have h1 := run_le C (Nat.le_max_left k k') hk
    have h2 := run_le C (Nat.le_max_right k k') hk'
    rw [h1] at h2
    exact h2.symm
theorem lim_cont : Cont (lim C) (run C) := fun c g H o h => by
  obtain ⟨k, hk⟩ := (lim_iff C).1 h
  exact ⟨k, fun k' hk' => run_le C hk' hk⟩
theorem lim_eq (c : Code) (g : List PV) (H : List HO) : lim C c g H = code C (lim C) c g H := by
  have key : ∀ o, lim C c g H = some o ↔ code C (lim C) c g H = some o := by
    intro o
    constructor
    · intro h
      obtain ⟨k, hk⟩ := (lim_iff C).1 h
      cases k with
      | zero => cases hk
      | succ k => exact code_mono C (fun c g H o hh => (lim_iff C).2 ⟨k, hh⟩) hk
    · intro h
      obtain ⟨K, hK⟩ := code_cont C (lim_cont C) h
      exact (lim_iff C).2 ⟨K + 1, hK K (Nat.le_refl _)⟩
  cases h : code C (lim C) c g H with
  | some o => exact (key o).2 h
  | none =>
    cases h2 : lim C c g H with
    | none => rfl
    | some o => rw [(key o).1 h2] at h; cases h
end
end Go.PI

end
section
/- The pure interpreter and its simulation, part 3. -/
set_option linter.unusedSimpArgs false
set_option linter.unusedVariables false
namespace Go.PI

/-- Where a number of the pure heap lies: the block, its first cell, how many elements there is room for, an element's size; blk: is there a block at all. -/
structure Loc where
  g : Nat
  o : Nat
  cap : Nat
  sz : Nat
  blk : Bool
abbrev Mu := Nat → Option Loc
def mu0 : Mu := fun _ => none

/-- What a pure value says of a value in a world. 'B e b': block b may be read as cells of type e that nobody writes. -/
inductive Rel (w : World) (B : Nat → Nat → Prop) : Mu → PV → Value → Prop
  | s {μ : Mu} {v : Value} (h : scal v = true) : Rel w B μ (.s v) v
  | lst0 {μ : Mu} {e x A c} (h : x = true → c = 0) : Rel w B μ (.lst e 0 [] x) (.slice A 0 c)
  | lst {μ : Mu} {e n : Nat} {cs : List PV} {x : Bool} {ad : Addr} {c : Nat} (us : List Value) (hn : 0 < n) (hc : n ≤ c) (hx : x = true → c = n) (hb : B e ad.block) (hs : ad.spot = none) (hl : us.length = cs.length)
      (hcell : ∀ i u, us[i]? = some u → w.cell? (ad.add i) = some u) (h1 : ∀ p ∈ cs, isCell p = true) (hr : ∀ (i : Nat) (p : PV) (u : Value), cs[i]? = some p → us[i]? = some u → Rel w B mu0 p u) : Rel w B μ (.lst e n cs x) (.slice (some ad) n c)
  | lptr {μ : Mu} {e : Nat} {cs : List PV} {ad : Addr} (us : List Value) (hb : B e ad.block) (hs : ad.spot = none) (hl : us.length = cs.length)
      (hcell : ∀ i u, us[i]? = some u → w.cell? (ad.add i) = some u) (h1 : ∀ p ∈ cs, isCell p = true) (hr : ∀ (i : Nat) (p : PV) (u : Value), cs[i]? = some p → us[i]? = some u → Rel w B mu0 p u) : Rel w B μ (.lptr e cs) (.pointer (some ad))
  | row {μ : Mu} {r off len : Nat} {l : Loc} (h : μ r = some l) (hk : l.blk = true) (hle : off + len ≤ l.cap) : Rel w B μ (.row r off len) (.slice (some ⟨l.g, l.o + off * l.sz, none⟩) len (l.cap - off))
  | row0 {μ : Mu} {r off : Nat} {l : Loc} {A : Option Addr} (h : μ r = some l) (he : off = l.cap) : Rel w B μ (.row r off 0) (.slice A 0 0)
  | ptr {μ : Mu} {r off : Nat} {l : Loc} (h : μ r = some l) : Rel w B μ (.ptr r off) (.pointer (some ⟨l.g, l.o + off, none⟩))
  | map {μ : Mu} {r : Nat} {l : Loc} (h : μ r = some l) : Rel w B μ (.map r) (.map (some l.g))
  | yld {μ : Mu} {r : Nat} {l : Loc} (h : μ r = some l) : Rel w B μ (.yld r) (.func (.yield l.g) #[] #[])
  | fn {μ : Mu} {f : FuncId} {first caps : List PV} {vf vc : Array Value} (hl1 : vf.size = first.length) (hl2 : vc.size = caps.length)
      (hr1 : ∀ (i : Nat) (p : PV) (u : Value), first[i]? = some p → vf[i]? = some u → Rel w B μ p u) (hr2 : ∀ (i : Nat) (p : PV) (u : Value), caps[i]? = some p → vc[i]? = some u → Rel w B μ p u) : Rel w B μ (.fn f first caps) (.func (.func f) vf vc)
  | agg {μ : Mu} {cs : List PV} {us : Array Value} (hl : us.size = cs.length) (h1 : ∀ p ∈ cs, isCell p = true) (hr : ∀ (i : Nat) (p : PV) (u : Value), cs[i]? = some p → us[i]? = some u → Rel w B μ p u) : Rel w B μ (.agg cs) (.agg us)
  | any {μ : Mu} {e n : Nat} {cs : List PV} {v : Value} : Rel w B μ (.own e n cs) v
  | tup {μ : Mu} {vs : List PV} {us : Array Value} (hl : us.size = vs.length) (hr : ∀ (i : Nat) (p : PV) (u : Value), vs[i]? = some p → us[i]? = some u → Rel w B μ p u) : Rel w B μ (.tup vs) (.tuple us)

/-- Lists of values. -/
def RelL (w : World) (B : Nat → Nat → Prop) (μ : Mu) (ps : List PV) (us : List Value) : Prop :=
  us.length = ps.length ∧ ∀ (i : Nat) (p : PV) (u : Value), ps[i]? = some p → us[i]? = some u → Rel w B μ p u

section
variable {w w' : World} {B B' : Nat → Nat → Prop} {μ μ' : Mu}

theorem hasL_mem {e : Nat} {p : PV} : ∀ {cs : List PV}, p ∈ cs → hasE e p = true → hasE.hasL e cs = true
  | q :: cs, hm, h => by
    rw [hasE.hasL]
    rcases List.mem_cons.1 hm with rfl | hm
    · simp [h]
    · simp [hasL_mem hm h]
theorem mem_of_get {α : Type} {l : List α} {i : Nat} {a : α} (h : l[i]? = some a) : a ∈ l := List.mem_of_getElem? h

theorem cell_same {b : Nat} (h : w'.heap[b]? = w.heap[b]?) (a : Addr) (ha : a.block = b) : w'.cell? a = w.cell? a := by
  subst ha
  simp only [World.cell?, h]
theorem add_block (a : Addr) (i : Nat) : (a.add i).block = a.block := by unfold Addr.add; split <;> rfl

/-- A value stays what it is where what it leads to stays. -/
theorem Rel.mono {p : PV} {v : Value} (h : Rel w B μ p v) (hB : ∀ e b, hasE e p = true → B e b → B' e b ∧ w'.heap[b]? = w.heap[b]?) (hμ : ∀ r l, μ r = some l → μ' r = some l) : Rel w' B' μ' p v := by
  induction h generalizing μ' with
  | s h => exact .s h
  | lst0 h => exact .lst0 h
  | @lst _ e n cs x ad c us hn hc hx hb hs hl hcell h1 hr ih =>
    obtain ⟨hb', hw⟩ := hB e _ (by simp [hasE]) hb
    refine .lst us hn hc hx hb' hs hl (fun i u hu => ?_) h1 (fun i p u hp hu => ih i p u hp hu (fun e b he => hB e b ?_) (fun _ _ h => h))
    · rw [cell_same hw _ (add_block _ _)]; exact hcell i u hu
    · simp only [hasE, Bool.or_eq_true]; exact .inr (hasL_mem (mem_of_get hp) he)
  | @lptr _ e cs ad us hb hs hl hcell h1 hr ih =>
    obtain ⟨hb', hw⟩ := hB e _ (by simp [hasE]) hb
    refine .lptr us hb' hs hl (fun i u hu => ?_) h1 (fun i p u hp hu => ih i p u hp hu (fun e b he => hB e b ?_) (fun _ _ h => h))
    · rw [cell_same hw _ (add_block _ _)]; exact hcell i u hu
    · simp only [hasE, Bool.or_eq_true]; exact .inr (hasL_mem (mem_of_get hp) he)
  | row h hk hle => exact .row (hμ _ _ h) hk hle
  | row0 h he => exact .row0 (hμ _ _ h) he
  | ptr h => exact .ptr (hμ _ _ h)
  | map h => exact .map (hμ _ _ h)
  | yld h => exact .yld (hμ _ _ h)
  | fn hl1 hl2 hr1 hr2 ih1 ih2 =>
    refine .fn hl1 hl2 (fun i p u hp hu => ih1 i p u hp hu (fun e b he => hB e b ?_) hμ) (fun i p u hp hu => ih2 i p u hp hu (fun e b he => hB e b ?_) hμ)
    · simp only [hasE, Bool.or_eq_true]; exact .inl (hasL_mem (mem_of_get hp) he)
    · simp only [hasE, Bool.or_eq_true]; exact .inr (hasL_mem (mem_of_get hp) he)
  | agg hl h1 hr ih => exact .agg hl h1 (fun i p u hp hu => ih i p u hp hu (fun e b he => hB e b (by simp only [hasE]; exact hasL_mem (mem_of_get hp) he)) hμ)
  | any => exact .any
  | tup hl hr ih => exact .tup hl (fun i p u hp hu => ih i p u hp hu (fun e b he => hB e b (by simp only [hasE]; exact hasL_mem (mem_of_get hp) he)) hμ)
theorem Rel.imp {p : PV} {v : Value} (h : Rel w B μ p v) (hB : ∀ e b, B e b → B' e b ∧ w'.heap[b]? = w.heap[b]?) (hμ : ∀ r l, μ r = some l → μ' r = some l) : Rel w' B' μ' p v := h.mono (fun e b _ => hB e b) hμ
theorem Rel.up {p : PV} {v : Value} (h : Rel w B mu0 p v) : Rel w B μ p v := h.imp (fun _ _ h => ⟨h, rfl⟩) (fun _ _ h => by cases h)
theorem RelL.imp {ps : List PV} {us : List Value} (h : RelL w B μ ps us) (hB : ∀ e b, B e b → B' e b ∧ w'.heap[b]? = w.heap[b]?) (hμ : ∀ r l, μ r = some l → μ' r = some l) : RelL w' B' μ' ps us := ⟨h.1, fun i p u hp hu => (h.2 i p u hp hu).imp hB hμ⟩
theorem Rel.one {p : PV} {v : Value} (h : Rel w B μ p v) (h1 : isCell p = true) : v.oneCell' = true := by
  cases h <;> first | rfl | (simp [isCell] at h1; done) | skip
  rename_i h
  cases v <;> first | rfl | (simp [scal] at h)
theorem Rel.int {p : PV} {k : IntKind} {n : Int} {v : Value} (h : Rel w B μ (.s (.int k n)) v) : v = .int k n := by cases h; rfl
theorem Rel.sInv {x v : Value} (h : Rel w B μ (.s x) v) : v = x := by cases h; rfl
theorem RelL.get {ps : List PV} {us : List Value} (h : RelL w B μ ps us) {i : Nat} {p : PV} (hp : ps[i]? = some p) : ∃ u, us[i]? = some u ∧ Rel w B μ p u := by
  have hlt : i < us.length := by rw [h.1]; exact (List.getElem?_eq_some_iff.1 hp).1
  exact ⟨us[i], List.getElem?_eq_getElem hlt, h.2 i p _ hp (List.getElem?_eq_getElem hlt)⟩
theorem RelL.up {ps : List PV} {us : List Value} (h : RelL w B mu0 ps us) : RelL w B μ ps us := ⟨h.1, fun i p u hp hu => (h.2 i p u hp hu).up⟩
theorem RelL.nil : RelL w B μ [] [] := ⟨rfl, fun i p u hp => by simp at hp⟩
theorem RelL.cons {p : PV} {u : Value} {ps : List PV} {us : List Value} (h : Rel w B μ p u) (hs : RelL w B μ ps us) : RelL w B μ (p :: ps) (u :: us) := ⟨by simp [hs.1], fun i q v hq hv => by
  cases i with
  | zero => simp at hq hv; subst hq; subst hv; exact h
  | succ i => simp at hq hv; exact hs.2 i q v hq hv⟩
theorem RelL.cons_inv {p : PV} {ps : List PV} {us : List Value} (h : RelL w B μ (p :: ps) us) : ∃ u us', us = u :: us' ∧ Rel w B μ p u ∧ RelL w B μ ps us' := by
  cases us with
  | nil => have := h.1; simp at this
  | cons u us => exact ⟨u, us, rfl, h.2 0 p u rfl rfl, ⟨by have := h.1; simpa using this, fun i q v hq hv => h.2 (i + 1) q v (by simpa using hq) (by simpa using hv)⟩⟩
theorem RelL.append {ps ps' : List PV} {us us' : List Value} (h : RelL w B μ ps us) (h' : RelL w B μ ps' us') : RelL w B μ (ps ++ ps') (us ++ us') := by
  refine ⟨by simp [h.1, h'.1], fun i p u hp hu => ?_⟩
  rcases Nat.lt_or_ge i ps.length with hi | hi
  · rw [List.getElem?_append_left hi] at hp
    rw [List.getElem?_append_left (by rw [h.1]; exact hi)] at hu
    exact h.2 i p u hp hu
  · rw [List.getElem?_append_right hi] at hp
    rw [List.getElem?_append_right (by rw [h.1]; exact hi), h.1] at hu
    exact h'.2 _ p u hp hu
theorem RelL.set {ps : List PV} {us : List Value} (h : RelL w B μ ps us) (i : Nat) {p : PV} {u : Value} (hp : Rel w B μ p u) : RelL w B μ (ps.set i p) (us.set i u) := by
  refine ⟨by simp [h.1], fun j q v hq hv => ?_⟩
  by_cases hij : i = j
  · subst hij
    rw [List.getElem?_set] at hq hv
    simp only [if_true] at hq hv
    split at hq
    · split at hv
      · cases hq; cases hv; exact hp
      · cases hv
    · cases hq
  · rw [List.getElem?_set_ne hij] at hq hv
    exact h.2 j q v hq hv
theorem RelL.take {ps : List PV} {us : List Value} (h : RelL w B μ ps us) (n : Nat) : RelL w B μ (ps.take n) (us.take n) := by
  refine ⟨by simp [h.1], fun j q v hq hv => ?_⟩
  rw [List.getElem?_take] at hq hv
  split at hq
  · rw [if_pos ‹_›] at hv; exact h.2 j q v hq hv
  · cases hq
theorem RelL.drop {ps : List PV} {us : List Value} (h : RelL w B μ ps us) (n : Nat) : RelL w B μ (ps.drop n) (us.drop n) := by
  refine ⟨by simp [h.1], fun j q v hq hv => ?_⟩
  rw [List.getElem?_drop] at hq hv
  exact h.2 _ q v hq hv
theorem RelL.replicate {p : PV} {u : Value} (h : Rel w B μ p u) (n : Nat) : RelL w B μ (List.replicate n p) (List.replicate n u) := by
  refine ⟨by simp, fun j q v hq hv => ?_⟩
  rw [List.getElem?_replicate] at hq hv
  split at hq
  · rw [if_pos ‹_›] at hv; cases hq; cases hv; exact h
  · cases hq
theorem RelL.flatten {n : Nat} {ps : List PV} {us : List Value} (h : RelL w B μ ps us) : RelL w B μ ((List.replicate n ps).flatten) ((List.replicate n us).flatten) := by
  induction n with
  | zero => exact .nil
  | succ n ih => rw [List.replicate_succ, List.replicate_succ, List.flatten_cons, List.flatten_cons]; exact h.append ih
theorem RelL.splice {ps ns : List PV} {us vs : List Value} (h : RelL w B μ ps us) (h' : RelL w B μ ns vs) (n : Nat) : RelL w B μ (splice ps n ns) (us.take n ++ (vs ++ us.drop (n + vs.length))) := by
  unfold PI.splice
  rw [← h'.1]
  exact (h.take n).append (h'.append (h.drop _))
theorem rel_scal_list : ∀ {cs : List Value}, cs.all scal = true → RelL w B μ (cs.map PV.s) cs
  | [], _ => .nil
  | c :: cs, h => by
    rw [List.all_cons, Bool.and_eq_true] at h
    exact .cons (.s h.1) (rel_scal_list h.2)
theorem rel_undef : Rel w B μ undefP undef := .tup rfl (fun i p u hp => by simp at hp)

/-- The cells of a value. -/
theorem rel_cells {p : PV} {v : Value} (h : Rel w B μ p v) (h1 : (pcells p).all isCell = true) : RelL w B μ (pcells p) v.cells.toList ∧ ∀ u ∈ v.cells.toList, u.oneCell' = true := by
  cases p with
  | agg cs =>
    cases h with
    | @agg _ _ us hl h1 hr =>
      refine ⟨⟨by simpa [Value.cells, pcells] using hl, fun i p u hp hu => hr i p u hp (by simpa [Value.cells] using hu)⟩, fun u hu => ?_⟩
      obtain ⟨i, hi⟩ := List.mem_iff_getElem?.1 hu
      simp only [Value.cells, Array.getElem?_toList] at hi
      have hlt : i < cs.length := by rw [← hl]; exact (Array.getElem?_eq_some_iff.1 hi).1
      exact (hr i _ u (List.getElem?_eq_getElem hlt) hi).one (h1 _ (List.getElem_mem hlt))
  | _ =>
    simp only [pcells, List.all_cons, List.all_nil, Bool.and_true] at h1
    have ho := h.one h1
    have hc : v.cells = #[v] := by cases v <;> first | rfl | (simp [Value.oneCell'] at ho)
    rw [hc]
    exact ⟨.cons h .nil, fun u hu => by simp at hu; rw [hu]; exact ho⟩
end
end Go.PI

end
section
/- The pure interpreter and its simulation, part 4. -/
set_option linter.unusedSimpArgs false
set_option linter.unusedVariables false
namespace Go.PI
/-! ### What is asked of code: its regions of open order -/
/-- Every earlier operation is waited for (by edges, one behind the other). -/
def plainEdge (e : Edge) : Bool := match e.ground with
  | .textOnly _ => false
  | .gcOnly _ => false
  | _ => true
def befStep (acc : List Nat) (o : Oper) : Nat := o.after.toList.foldl (fun s e => if plainEdge e then s ||| (2 ^ e.on ||| acc.getD e.on 0) else s) 0
def beforeL (ops : List Oper) : List Nat := ops.foldl (fun acc o => acc ++ [befStep acc o]) []
def firstLoud : List Oper → Nat
  | [] => 0
  | o :: os => if quiet o then firstLoud os + 1 else 0
def opTmps (o : Oper) : List Tmp := o.op.operands.toList.filterMap fun | .tmp t => some t | _ => none
def guardTmp (ops : List Oper) (o : Oper) : List Tmp := match o.guard with
  | some (j, _) => ((ops[j]?).bind (·.dst)).toList
  | none => []
/-- The edges that bind let the operations be listed one after the other. -/
def ordOk (md : Region.Mode) (ops : Array Oper) : Bool :=
  let ord := Region.linearise md ops 0
  (List.range ops.size).all fun j => match ops[j]? with
    | some o => o.after.toList.all fun e => !Region.binds md e || (decide (e.on < ops.size) && decide (ord.idxOf e.on < ord.idxOf j))
    | none => true
/-- A region whose order is open: plain edges go back; from the first operation that writes on each waits for all before it; the others' places are apart, and what they read is waited for, or waits. -/
def drawOk (ops : Array Oper) : Bool :=
  let l := ops.toList
  let bs := beforeL l
  let m := firstLoud l
  (l.zipIdx.all fun (o, j) => o.after.toList.all fun e => !plainEdge e || decide (e.on < j)) &&
  (l.all (fun o => o.after.toList.all plainEdge) || (ordOk .any ops && ordOk .text ops && ordOk .gc ops)) &&
  (l.zipIdx.all fun (_, j) => decide (j < m) || (List.range j).all fun i => (bs.getD j 0).testBit i) &&
  ((l.take m).zipIdx.all fun (o, j) => ((l.take m).zipIdx.all fun (o', i) =>
      (i == j || o.dst.isNone || o.dst != o'.dst) &&
      ((opTmps o ++ guardTmp l o).all fun t => o'.dst != some t || (bs.getD j 0).testBit i || (bs.getD i 0).testBit j)))
def codeOk : Code → Bool
  | .region _ ops draw => !draw || drawOk ops
  | .seq a b => codeOk a && codeOk b
  | .cond _ a b => codeOk a && codeOk b
  | .block _ b => codeOk b
  | .loop b => codeOk b
  | .scope b => codeOk b
  | .rangeFunc _ _ a b => codeOk a && codeOk b
  | _ => true

variable (C : Cfg)
def typed (w : World) (b e : Nat) : Prop := ∃ cur fz, w.heap[b]? = some (.cells cur e fz)
def writable : HO → Bool
  | .cells _ _ _ sealed => !sealed
  | .map _ => true
  | .loop .. => true
  | .dead => false
def live : HO → Bool
  | .dead => false
  | _ => true
theorem live_of_writable {o : HO} (h : writable o = true) : live o = true := by cases o <;> first | rfl | (simp [writable] at h)
/-- A block that the pure heap may write. -/
def Mut (μ : Mu) (H : List HO) (b : Nat) : Prop := ∃ r l o, μ r = some l ∧ l.blk = true ∧ l.g = b ∧ H[r]? = some o ∧ writable o = true
/-- What may be read as cells that nobody writes: what came in, and what was made since and is no block that may be written. -/
def Bn (B : Nat → Nat → Prop) (Bs : Nat) (μ : Mu) (H : List HO) (w : World) (e b : Nat) : Prop := B e b ∨ (Bs ≤ b ∧ typed w b e ∧ ¬ Mut μ H b)
def CellsAt (w : World) (B : Nat → Nat → Prop) (μ : Mu) (cs : List PV) (cur : Array Value) (o : Nat) : Prop := ∀ (i : Nat) (p : PV), cs[i]? = some p → ∃ u, cur[o + i]? = some u ∧ isCell p = true ∧ Rel w B μ p u

inductive ObjRel (w : World) (B : Nat → Nat → Prop) (μ : Mu) : HO → Loc → Prop
  | box {e cs sl l cur} (hk : l.blk = true) (hh : w.heap[l.g]? = some (.cells cur e (0, 0))) (hc : CellsAt w B μ cs cur l.o) : ObjRel w B μ (.cells e cs none sl) l
  | row {e cs sz sl l cur} (hk : l.blk = true) (hs : l.sz = sz) (hz : szOf C e = some sz) (h0 : 0 < sz) (hh : w.heap[l.g]? = some (.cells cur e (0, 0))) (hl : cs.length ≤ l.cap * sz) (hb : l.o + l.cap * sz ≤ cur.size) (hc : CellsAt w B μ cs cur l.o) : ObjRel w B μ (.cells e cs (some sz) sl) l
  | row0 {e sz sl l} (hk : l.blk = false) (hs : l.sz = sz) (hc : l.cap = 0) : ObjRel w B μ (.cells e [] (some sz) sl) l
  | map {es l ents clock} (hk : l.blk = true) (hh : w.heap[l.g]? = some (.map ents clock)) (hl : ents.size = es.length) (hr : ∀ (i : Nat) (k : Int) (p : PV), es[i]? = some (k, p) → ∃ m, ents[i]? = some m ∧ m.key = .int .i64 k ∧ Rel w B μ p m.val) : ObjRel w B μ (.map es) l
  | loop {st pend g params assign body l} {L : Loop} (hk : l.blk = true) (hh : w.heap[l.g]? = some (.loop L)) (h1 : L.state = st) (h2 : L.pending = pend) (h3 : L.params.toList = params) (h4 : L.assign = assign) (h5 : L.body = body) (h6 : RelL w B μ g L.tmps.toList) (h7 : codeOk assign = true) (h8 : codeOk body = true) : ObjRel w B μ (.loop st pend g params assign body) l
  | dead {l} : ObjRel w B μ .dead l

structure St (B : Nat → Nat → Prop) (Bs : Nat) (μ : Mu) (H : List HO) (w : World) : Prop where
  obj : ∀ r l, μ r = some l → ∃ o, H[r]? = some o ∧ ObjRel C w (Bn B Bs μ H w) μ o l
  inj : ∀ r r' l l' o o', μ r = some l → μ r' = some l' → H[r]? = some o → H[r']? = some o' → live o = true → live o' = true → l.blk = true → l'.blk = true → l.g = l'.g → r = r'
  base : ∀ r l o, μ r = some l → H[r]? = some o → live o = true → l.blk = true → Bs ≤ l.g
  bs : Bs ≤ w.heap.size
  low : ∀ e b, B e b → b < Bs
  glob : ∀ n e cs, C.glob n = some (e, cs) → Rel w (Bn B Bs μ H w) μ (.lptr e cs) (.pointer (some ⟨n, 0, none⟩))

/-- The world w' is w but for what S names, and what is new. -/
structure Pres (S : Nat → Prop) (w w' : World) : Prop where
  os : w'.os = w.os
  tape : w'.tape = w.tape
  output : w'.output = w.output
  size : w.heap.size ≤ w'.heap.size
  block : ∀ b, b < w.heap.size → ¬ S b → w'.heap[b]? = w.heap[b]?
  lp : ∀ (b : Nat) (L : Loop), w.heap[b]? = some (Obj.loop L) → ∃ L', w'.heap[b]? = some (Obj.loop L')
/-- A step on. -/
structure Ext (μ : Mu) (H : List HO) (w : World) (μ' : Mu) (H' : List HO) (w' : World) : Prop where
  pres : Pres (Mut μ H) w w'
  mu : ∀ r l, μ r = some l → μ' r = some l
  mt : ∀ b, Mut μ' H' b → Mut μ H b ∨ w.heap.size ≤ b
theorem Pres.refl (S : Nat → Prop) (w : World) : Pres S w w := ⟨rfl, rfl, rfl, Nat.le_refl _, fun _ _ _ => rfl, fun _ L h => ⟨L, h⟩⟩
theorem Ext.refl (μ : Mu) (H : List HO) (w : World) : Ext μ H w μ H w := ⟨.refl _ _, fun _ _ h => h, fun _ h => .inl h⟩
theorem Ext.trans {μ μ' μ'' : Mu} {H H' H'' : List HO} {w w' w'' : World} (h : Ext μ H w μ' H' w') (k : Ext μ' H' w' μ'' H'' w'') : Ext μ H w μ'' H'' w'' :=
  ⟨⟨k.pres.os.trans h.pres.os, k.pres.tape.trans h.pres.tape, k.pres.output.trans h.pres.output, Nat.le_trans h.pres.size k.pres.size, fun b hb hn =>
    (k.pres.block b (Nat.lt_of_lt_of_le hb h.pres.size) (fun hm => (h.mt b hm).elim hn (fun hh => by omega))).trans (h.pres.block b hb hn), fun b L hb => by
    obtain ⟨L', h'⟩ := h.pres.lp b L hb
    exact k.pres.lp b L' h'⟩,
   fun r l hr => k.mu r l (h.mu r l hr), fun b hb => (k.mt b hb).elim (h.mt b) (fun hh => .inr (Nat.le_trans h.pres.size hh))⟩
variable {C} {B : Nat → Nat → Prop} {Bs : Nat} {μ μ' : Mu} {H H' : List HO} {w w' : World}
theorem St.mut_base (st : St C B Bs μ H w) {b : Nat} (h : Mut μ H b) : Bs ≤ b := by
  obtain ⟨r, l, o, h1, h2, rfl, h4, h5⟩ := h
  exact st.base r l o h1 h4 (live_of_writable h5) h2
theorem typed_lt {b e : Nat} (h : typed w b e) : b < w.heap.size := by
  obtain ⟨cur, fz, h⟩ := h
  exact (Array.getElem?_eq_some_iff.1 h).1
/-- Behind a step what was read as cells that nobody writes still is. -/
theorem St.bn (st : St C B Bs μ H w) (h : Ext μ H w μ' H' w') (e b : Nat) (hb : Bn B Bs μ H w e b) : Bn B Bs μ' H' w' e b ∧ w'.heap[b]? = w.heap[b]? := by
  have hn : ¬ Mut μ H b ∧ b < w.heap.size := by
    rcases hb with hb | ⟨h1, h2, h3⟩
    · have := st.low e b hb
      exact ⟨fun hm => by have := st.mut_base hm; omega, Nat.lt_of_lt_of_le this st.bs⟩
    · exact ⟨h3, typed_lt h2⟩
  have hs := h.pres.block b hn.2 hn.1
  refine ⟨?_, hs⟩
  rcases hb with hb | ⟨h1, ⟨cur, fz, h2⟩, h3⟩
  · exact .inl hb
  · exact .inr ⟨h1, ⟨cur, fz, hs.trans h2⟩, fun hm => (h.mt b hm).elim h3 (fun hh => by omega)⟩
theorem St.rel (st : St C B Bs μ H w) (h : Ext μ H w μ' H' w') {p : PV} {v : Value} (hr : Rel w (Bn B Bs μ H w) μ p v) : Rel w' (Bn B Bs μ' H' w') μ' p v := hr.imp (st.bn h) h.mu
theorem St.relL (st : St C B Bs μ H w) (h : Ext μ H w μ' H' w') {p : List PV} {v : List Value} (hr : RelL w (Bn B Bs μ H w) μ p v) : RelL w' (Bn B Bs μ' H' w') μ' p v := hr.imp (st.bn h) h.mu
/-- An object whose block is as it was. -/
theorem St.objRel (st : St C B Bs μ H w) (h : Ext μ H w μ' H' w') {o : HO} {l : Loc} (ho : ObjRel C w (Bn B Bs μ H w) μ o l) (hg : l.blk = true → live o = true → w'.heap[l.g]? = w.heap[l.g]?) : ObjRel C w' (Bn B Bs μ' H' w') μ' o l := by
  have hc : ∀ {cs : List PV} {cur : Array Value} {k : Nat}, CellsAt w (Bn B Bs μ H w) μ cs cur k → CellsAt w' (Bn B Bs μ' H' w') μ' cs cur k := fun hc i p hp => by
    obtain ⟨u, h1, h2, h3⟩ := hc i p hp
    exact ⟨u, h1, h2, st.rel h h3⟩
  cases ho with
  | box hk hh hcs => exact .box hk ((hg hk rfl).trans hh) (hc hcs)
  | row hk hs hz h0 hh hl hb hcs => exact .row hk hs hz h0 ((hg hk rfl).trans hh) hl hb (hc hcs)
  | row0 hk hs hcap => exact .row0 hk hs hcap
  | map hk hh hl hr => exact .map hk ((hg hk rfl).trans hh) hl (fun i k p hp => by obtain ⟨m, h1, h2, h3⟩ := hr i k p hp; exact ⟨m, h1, h2, st.rel h h3⟩)
  | loop hk hh h1 h2 h3 h4 h5 h6 h7 h8 => exact .loop hk ((hg hk rfl).trans hh) h1 h2 h3 h4 h5 (st.relL h h6) h7 h8
  | dead => exact .dead
theorem ObjRel.heap {o : HO} {l : Loc} {B' : Nat → Nat → Prop} (h : ObjRel C w B' μ o l) (hk : l.blk = true) (hl : live o = true) : l.g < w.heap.size := by
  cases h with
  | box _ hh _ => exact (Array.getElem?_eq_some_iff.1 hh).1
  | row _ _ _ _ hh _ _ _ => exact (Array.getElem?_eq_some_iff.1 hh).1
  | row0 hk' => rw [hk] at hk'; cases hk'
  | map _ hh _ _ => exact (Array.getElem?_eq_some_iff.1 hh).1
  | loop _ hh _ _ _ _ _ _ _ _ => exact (Array.getElem?_eq_some_iff.1 hh).1
  | dead => cases hl

/-- The heap grows by what no number yet leads to. -/
theorem mut_congr (h : ∀ r l, μ r = some l → H'[r]? = H[r]?) (b : Nat) : Mut μ H' b ↔ Mut μ H b := by
  constructor
  · rintro ⟨r, l, o, h1, h2, h3, h4, h5⟩
    exact ⟨r, l, o, h1, h2, h3, by rw [← h r l h1]; exact h4, h5⟩
  · rintro ⟨r, l, o, h1, h2, h3, h4, h5⟩
    exact ⟨r, l, o, h1, h2, h3, by rw [h r l h1]; exact h4, h5⟩
theorem bn_congr (h : ∀ r l, μ r = some l → H'[r]? = H[r]?) : Bn B Bs μ H' w = Bn B Bs μ H w := by
  funext e b
  unfold Bn
  rw [propext (mut_congr h b)]
theorem St.congr (st : St C B Bs μ H w) (h : ∀ r l, μ r = some l → H'[r]? = H[r]?) : St C B Bs μ H' w where
  obj r l hr := by rw [h r l hr, bn_congr h]; exact st.obj r l hr
  inj r r' l l' o o' h1 h2 h3 h4 := st.inj r r' l l' o o' h1 h2 (by rw [← h r l h1]; exact h3) (by rw [← h r' l' h2]; exact h4)
  base r l o h1 h2 := st.base r l o h1 (by rw [← h r l h1]; exact h2)
  bs := st.bs
  low := st.low
  glob := by rw [bn_congr h]; exact st.glob
theorem St.lt (st : St C B Bs μ H w) {r : Nat} {l : Loc} (h : μ r = some l) : r < H.length := by
  obtain ⟨o, ho, _⟩ := st.obj r l h
  exact (List.getElem?_eq_some_iff.1 ho).1
theorem St.grow (st : St C B Bs μ H w) (new : List HO) : St C B Bs μ (H ++ new) w := st.congr fun r l hr => List.getElem?_append_left (st.lt hr)
theorem St.ext_grow (st : St C B Bs μ H w) (new : List HO) : Ext μ H w μ (H ++ new) w := ⟨.refl _ _, fun _ _ h => h, fun b hb => .inl ((mut_congr (fun r l hr => List.getElem?_append_left (st.lt hr)) b).1 hb)⟩

/-- The world alone turns, no block of the heap. -/
theorem St.world (st : St C B Bs μ H w) (hp : Pres (fun _ => False) w w') : St C B Bs μ H w' ∧ Ext μ H w μ H w' := by
  have he : Ext μ H w μ H w' := ⟨⟨hp.os, hp.tape, hp.output, hp.size, fun b hb _ => hp.block b hb (fun h => h), hp.lp⟩, fun _ _ h => h, fun _ h => .inl h⟩
  refine ⟨⟨fun r l hr => ?_, st.inj, st.base, Nat.le_trans st.bs hp.size, st.low, fun n e cs hn => st.rel he (st.glob n e cs hn)⟩, he⟩
  obtain ⟨o, ho, hrel⟩ := st.obj r l hr
  exact ⟨o, ho, st.objRel he hrel (fun hk hl => hp.block _ (hrel.heap hk hl) (fun h => h))⟩

def updMu (μ : Mu) (r : Nat) (l : Loc) : Mu := fun r' => if r' = r then some l else μ r'
theorem updMu_self (μ : Mu) (r : Nat) (l : Loc) : updMu μ r l r = some l := by simp [updMu]
theorem updMu_other {r r' : Nat} (μ : Mu) (l : Loc) (h : r' ≠ r) : updMu μ r l r' = μ r' := by simp [updMu, h]

/-- A number that led nowhere is given an object in a new block. -/
theorem St.alloc (st : St C B Bs μ H w) {r : Nat} (hr : μ r = none) {o : HO} (ho : H[r]? = some o) (O : Obj) (l : Loc) (hl : l.blk = true → l.g = w.heap.size)
    (hrel : ∀ B' : Nat → Nat → Prop, ∀ μ' : Mu, Ext μ H w μ' H (w.alloc O) → (∀ p v, Rel w (Bn B Bs μ H w) μ p v → Rel (w.alloc O) B' μ' p v) → ObjRel C (w.alloc O) B' μ' o l) :
    St C B Bs (updMu μ r l) H (w.alloc O) ∧ Ext μ H w (updMu μ r l) H (w.alloc O) := by
  have he : Ext μ H w (updMu μ r l) H (w.alloc O) := by
    refine ⟨⟨rfl, rfl, rfl, by simp, fun b hb _ => Go.RowKit.Below.heap_alloc w O b hb, fun b L hb => ⟨L, (Go.RowKit.Below.heap_alloc w O b (Array.getElem?_eq_some_iff.1 hb).1).trans hb⟩⟩, fun r' l' h => ?_, ?_⟩
    · rw [updMu_other]
      · exact h
      · rintro rfl
        rw [hr] at h
        cases h
    · rintro b ⟨r', l', o', h1, h2, h3, h4, h5⟩
      by_cases e : r' = r
      · subst e
        rw [updMu_self] at h1
        cases h1
        rw [hl h2] at h3
        exact .inr (by omega)
      · rw [updMu_other μ l e] at h1
        exact .inl ⟨r', l', o', h1, h2, h3, h4, h5⟩
  refine ⟨⟨fun r' l' h => ?_, ?_, ?_, Nat.le_trans st.bs (by simp), st.low, fun n e cs hn => st.rel he (st.glob n e cs hn)⟩, he⟩
  · by_cases e : r' = r
    · subst e
      rw [updMu_self] at h
      cases h
      exact ⟨o, ho, hrel _ _ he (fun p v hv => st.rel he hv)⟩
    · rw [updMu_other μ l e] at h
      obtain ⟨o', ho', hrel'⟩ := st.obj r' l' h
      exact ⟨o', ho', st.objRel he hrel' (fun hk hl' => Go.RowKit.Below.heap_alloc w O _ (hrel'.heap hk hl'))⟩
  · intro r1 r2 l1 l2 o1 o2 h1 h2 h3 h4 hl1 hl2 hk1 hk2 hg
    by_cases e1 : r1 = r <;> by_cases e2 : r2 = r
    · rw [e1, e2]
    · subst e1
      rw [updMu_self] at h1
      cases h1
      rw [updMu_other μ l e2] at h2
      obtain ⟨o', ho', hrel'⟩ := st.obj r2 l2 h2
      rw [ho'] at h4
      cases h4
      have := hrel'.heap hk2 hl2
      rw [← hg, hl hk1] at this
      omega
    · subst e2
      rw [updMu_self] at h2
      cases h2
      rw [updMu_other μ l e1] at h1
      obtain ⟨o', ho', hrel'⟩ := st.obj r1 l1 h1
      rw [ho'] at h3
      cases h3
      have := hrel'.heap hk1 hl1
      rw [hg, hl hk2] at this
      omega
    · rw [updMu_other μ l e1] at h1
      rw [updMu_other μ l e2] at h2
      exact st.inj r1 r2 l1 l2 o1 o2 h1 h2 h3 h4 hl1 hl2 hk1 hk2 hg
  · intro r1 l1 o1 h1 h2 hl1 hk1
    by_cases e1 : r1 = r
    · subst e1
      rw [updMu_self] at h1
      cases h1
      rw [hl hk1]
      exact st.bs
    · rw [updMu_other μ l e1] at h1
      exact st.base r1 l1 o1 h1 h2 hl1 hk1

/-- An object's block is written: the object turns, all others are as they were. -/
theorem St.write (st : St C B Bs μ H w) {r : Nat} {l : Loc} (hr : μ r = some l) {o o' : HO} (ho : H[r]? = some o) (hw : writable o = true) (hk : l.blk = true)
    (hp : Pres (fun b => b = l.g) w w') (hlv : live o' = true)
    (hrel : ∀ B' : Nat → Nat → Prop, (∀ p v, Rel w (Bn B Bs μ H w) μ p v → Rel w' B' μ p v) → ObjRel C w' B' μ o' l) :
    St C B Bs μ (H.set r o') w' ∧ Ext μ H w μ (H.set r o') w' := by
  have hlt := st.lt hr
  have he : Ext μ H w μ (H.set r o') w' := by
    refine ⟨⟨hp.os, hp.tape, hp.output, hp.size, fun b hb hn => hp.block b hb (fun e => hn ⟨r, l, o, hr, hk, e.symm, ho, hw⟩), hp.lp⟩, fun _ _ h => h, ?_⟩
    rintro b ⟨r', l', o1, h1, h2, h3, h4, h5⟩
    by_cases e : r' = r
    · subst e
      rw [hr] at h1
      cases h1
      exact .inl ⟨r', l, o, hr, hk, h3, ho, hw⟩
    · rw [List.getElem?_set_ne (Ne.symm e)] at h4
      exact .inl ⟨r', l', o1, h1, h2, h3, h4, h5⟩
  refine ⟨⟨fun r' l' h => ?_, ?_, ?_, Nat.le_trans st.bs hp.size, st.low, fun n e cs hn => st.rel he (st.glob n e cs hn)⟩, he⟩
  · by_cases e : r' = r
    · subst e
      rw [hr] at h
      cases h
      exact ⟨o', by simp [hlt], hrel _ (fun p v hv => st.rel he hv)⟩
    · obtain ⟨o1, ho1, hrel1⟩ := st.obj r' l' h
      refine ⟨o1, by rw [List.getElem?_set_ne (Ne.symm e)]; exact ho1, st.objRel he hrel1 (fun hk1 hl1 => hp.block _ (hrel1.heap hk1 hl1) (fun hg => e ?_))⟩
      exact st.inj r' r l' l o1 o h hr ho1 ho hl1 (live_of_writable hw) hk1 hk hg
  · intro r1 r2 l1 l2 o1 o2 h1 h2 h3 h4 hl1 hl2 hk1 hk2 hg
    have key : ∀ (r1 : Nat) (o1 : HO), (H.set r o')[r1]? = some o1 → live o1 = true → ∃ o2, H[r1]? = some o2 ∧ live o2 = true := by
      intro r1 o1 h hl
      by_cases e : r1 = r
      · subst e; exact ⟨o, ho, live_of_writable hw⟩
      · rw [List.getElem?_set_ne (Ne.symm e)] at h; exact ⟨o1, h, hl⟩
    obtain ⟨q1, a1, a2⟩ := key r1 o1 h3 hl1
    obtain ⟨q2, b1, b2⟩ := key r2 o2 h4 hl2
    exact st.inj r1 r2 l1 l2 q1 q2 h1 h2 a1 b1 a2 b2 hk1 hk2 hg
  · intro r1 l1 o1 h1 h2 hl1 hk1
    by_cases e : r1 = r
    · subst e
      rw [hr] at h1
      cases h1
      exact st.base r1 l o hr ho (live_of_writable hw) hk1
    · rw [List.getElem?_set_ne (Ne.symm e)] at h2
      exact st.base r1 l1 o1 h1 h2 hl1 hk1
end Go.PI

end
section
/- The pure interpreter and its simulation, part 5. -/
set_option linter.unusedSimpArgs false
set_option linter.unusedVariables false
namespace Go.PI
section
variable {C : Cfg} {w : World} {B : Nat → Nat → Prop} {Bs : Nat} {μ : Mu} {H : List HO} {a : Act}

theorem run_sizeOf {t n : Nat} (h : szOf C t = some n) (w : World) : (sizeOf t).run C.P w = .ok n w := by
  unfold szOf at h
  obtain ⟨i, hi, rfl⟩ := Option.map_eq_some_iff.1 h
  simp [sizeOf, typeInfo, hi]
theorem run_typeInfo_bytes {t n : Nat} (h : bytesOf C t = some n) : ∃ i, C.P.info? t = some i ∧ i.bytes = n := by
  unfold bytesOf at h
  obtain ⟨i, hi, rfl⟩ := Option.map_eq_some_iff.1 h
  exact ⟨i, hi, rfl⟩
theorem run_zero {t : Nat} {z : List PV} (h : zeroP C t = some z) : ∃ v : Value, z = v.cells.toList.map PV.s ∧ v.cells.toList.all scal = true ∧ ∀ w, (zeroValue t).run C.P w = .ok v w := by
  unfold zeroP zeroV at h
  split at h
  · rename_i cs hc
    split at h
    · rename_i ha
      cases h
      obtain ⟨v, hv, rfl⟩ := Option.map_eq_some_iff.1 hc
      obtain ⟨i, hi, hz⟩ := Option.bind_eq_some_iff.1 hv
      exact ⟨v, rfl, ha, fun w => by simp [zeroValue, typeInfo, hi, hz]⟩
    · cases h
  · cases h
theorem run_isAgg {t : Nat} {b : Bool} (h : aggO C t = some b) (w : World) : (isAgg t).run C.P w = .ok b w := by
  unfold aggO at h
  split at h
  · rename_i hu; cases h; simp [isAgg, run_underlying hu]
  · rename_i hu; cases h; simp [isAgg, run_underlying hu]
  · rename_i d h1 h2 hu
    cases h
    unfold isAgg
    rw [Sem.run_bind, run_underlying hu]
    simp only [Result.andThen_ok]
    cases d <;> first | rfl | exact absurd rfl (h1 _) | exact absurd rfl (h2 _ _)
  · cases h
theorem elem_under {t e : Nat} (h : elemP C t = some e) : C.P.underlying t = some (.slice e) := by
  unfold elemP at h
  split at h
  · rename_i hu; cases h; exact hu
  · cases h
theorem arr_under {t n e : Nat} (h : arrP C t = some (n, e)) : C.P.underlying t = some (.array n e) := by
  unfold arrP at h
  split at h
  · rename_i hu; cases h; exact hu
  · cases h
theorem kind_under {t : Nat} {k : IntKind} (h : kindP C t = some k) : C.P.underlying t = some (.int k) := by
  unfold kindP at h
  split at h
  · rename_i hu; cases h; exact hu
  · cases h
theorem field_under {s f o t : Nat} (h : fieldP C s f = some (o, t)) : ∃ fs d, C.P.underlying s = some (.struct fs) ∧ fs[f]? = some d ∧ d.offset = o ∧ d.type = t := by
  unfold fieldP at h
  split at h
  · rename_i fs hu
    split at h
    · rename_i d hd; cases h; exact ⟨fs, d, hu, hd, rfl, rfl⟩
    · cases h
  · cases h

/-- The cells at an address, from it on. -/
def ptrCells (H : List HO) : PV → Option (List PV)
  | .lptr _ cs => some cs
  | .ptr r off => match H[r]? with
    | some (.cells _ cs _ _) => some (cs.drop off)
    | _ => none
  | _ => none
theorem CellsAt.list {cs : List PV} {cur : Array Value} {o : Nat} (h : CellsAt w B μ cs cur o) : RelL w B μ cs ((cur.toList.drop o).take cs.length) ∧ ∀ p ∈ cs, isCell p = true := by
  have hle : ∀ i, i < cs.length → o + i < cur.size := fun i hi => by
    obtain ⟨u, hu, _⟩ := h i _ (List.getElem?_eq_getElem hi)
    exact (Array.getElem?_eq_some_iff.1 hu).1
  refine ⟨⟨?_, fun i p u hp hu => ?_⟩, fun p hp => ?_⟩
  · have h2 : cs.length ≤ cur.size - o := by
      rcases Nat.eq_zero_or_pos cs.length with h0 | h0
      · omega
      · have := hle (cs.length - 1) (by omega)
        omega
    simp only [List.length_take, List.length_drop, Array.length_toList]
    omega
  · obtain ⟨v, hv, _, hr⟩ := h i p hp
    rw [List.getElem?_take, if_pos (List.getElem?_eq_some_iff.1 hp).1, List.getElem?_drop, Array.getElem?_toList, hv] at hu
    cases hu
    exact hr
  · obtain ⟨i, hi⟩ := List.mem_iff_getElem?.1 hp
    obtain ⟨_, _, h1, _⟩ := h i p hi
    exact h1
theorem add_plain' (g o i : Nat) : (⟨g, o, none⟩ : Addr).add i = ⟨g, o + i, none⟩ := by unfold Addr.add; split <;> simp_all
theorem St.cells (st : St C B Bs μ H w) {p : PV} {u : Value} {cs : List PV} (hr : Rel w (Bn B Bs μ H w) μ p u) (hp : ptrCells H p = some cs) :
    ∃ ad us, u = .pointer (some ad) ∧ ad.spot = none ∧ RelL w (Bn B Bs μ H w) μ cs us ∧ (∀ i v, us[i]? = some v → w.cell? (ad.add i) = some v) ∧ ∀ p ∈ cs, isCell p = true := by
  unfold ptrCells at hp
  split at hp
  · cases hp
    cases hr with
    | lptr us hb hs hl hcell h1 hr => exact ⟨_, us, rfl, hs, RelL.up ⟨hl, hr⟩, hcell, h1⟩
  · rename_i r off
    split at hp
    · rename_i e cs' row sl ho
      cases hp
      cases hr with
      | @ptr _ _ _ l h =>
        obtain ⟨o', ho', hrel⟩ := st.obj r l h
        rw [ho] at ho'
        cases ho'
        have key : ∀ cur : Array Value, w.heap[l.g]? = some (.cells cur e (0, 0)) → CellsAt w (Bn B Bs μ H w) μ cs' cur l.o → ∃ ad us, Value.pointer (some ⟨l.g, l.o + off, none⟩) = .pointer (some ad) ∧ ad.spot = none ∧ RelL w (Bn B Bs μ H w) μ (cs'.drop off) us ∧ (∀ i v, us[i]? = some v → w.cell? (ad.add i) = some v) ∧ ∀ p ∈ cs'.drop off, isCell p = true := by
          intro cur hh hc
          obtain ⟨h1, h2⟩ := hc.list
          refine ⟨_, _, rfl, rfl, h1.drop off, fun i v hv => ?_, fun p hp => h2 p (List.mem_of_mem_drop hp)⟩
          rw [List.getElem?_drop, List.getElem?_take] at hv
          split at hv
          · rw [List.getElem?_drop, Array.getElem?_toList] at hv
            rw [add_plain']
            simp only [World.cell?, hh]
            simpa [Nat.add_assoc] using hv
          · cases hv
        cases hrel with
        | box hk hh hc => exact key _ hh hc
        | row hk hs hz h0 hh hl hb hc => exact key _ hh hc
        | row0 hk hs hc => exact ⟨_, [], rfl, rfl, by simpa using (RelL.nil : RelL w (Bn B Bs μ H w) μ [] []), fun i v hv => by simp at hv, fun p hp => by simp at hp⟩
    · cases hp
  · cases hp

theorem run_loadAt {t : Nat} {p : PV} {u : Value} {v : PV} (st : St C B Bs μ H w) (hr : Rel w (Bn B Bs μ H w) μ p u) (h : loadP C H t p = some v) :
    ∃ x, (Instr.loadAt t u).run C.P w = .ok x w ∧ Rel w (Bn B Bs μ H w) μ v x := by
  have hc : ∃ cs, ptrCells H p = some cs ∧ loadC C t cs = some v := by
    unfold loadP at h
    unfold ptrCells
    split at h
    · exact ⟨_, rfl, h⟩
    · split at h
      · rename_i ho; exact ⟨_, by simp only [ho], h⟩
      · cases h
    · cases h
  obtain ⟨cs, hp, hl⟩ := hc
  obtain ⟨ad, us, rfl, hs, hrl, hcell, h1⟩ := st.cells hr hp
  unfold loadC at hl
  split at hl
  · rename_i n hn ha
    split at hl
    · rename_i hle
      cases hl
      have hlen : (us.take n).length = n := by rw [List.length_take, hrl.1]; omega
      have hrun := run_loadCells_list (P := C.P) w ad (us.take n) (fun j x hx => hcell j x (by
        rw [List.getElem?_take] at hx
        split at hx
        · exact hx
        · cases hx))
      rw [hlen] at hrun
      refine ⟨.agg (us.take n).toArray, ?_, .agg (by simp [hrl.1]) (fun q hq => h1 q (List.mem_of_mem_take hq)) (fun i q x hq hx => (hrl.take n).2 i q x hq (by simpa using hx))⟩
      simp [Instr.loadAt, Instr.sureAddr, loadVar, run_isAgg ha, run_sizeOf hn, hrun]
    · cases hl
  · rename_i n hn ha
    split at hl
    · rename_i h1n
      cases cs with
      | nil => cases hl
      | cons c cs =>
        simp only [List.head?_cons, Option.some.injEq] at hl
        subst hl
        obtain ⟨x, us', rfl, hx, _⟩ := hrl.cons_inv
        refine ⟨x, ?_, hx⟩
        have := hcell 0 x rfl
        rw [Addr.add_zero'] at this
        simp [Instr.loadAt, Instr.sureAddr, loadVar, run_isAgg ha, load, Sem.run, this]
    · cases hl
  · cases hl

theorem slOf_rel (st : St C B Bs μ H w) {p : PV} {u : Value} {e n : Nat} {cs : List PV} (hr : Rel w (Bn B Bs μ H w) μ p u) (h : slOf H p = some (e, n, cs)) :
    ∃ A c us, u = .slice A n c ∧ n ≤ c ∧ RelL w (Bn B Bs μ H w) μ cs us ∧ (∀ p ∈ cs, isCell p = true) ∧ (0 < n → ∃ ad, A = some ad ∧ ad.spot = none ∧ ∀ i v, us[i]? = some v → w.cell? (ad.add i) = some v) := by
  unfold slOf at h
  split at h
  · cases h
    cases hr
    exact ⟨none, 0, [], rfl, by omega, .nil, (fun p hp => by cases hp), (fun h0 => by omega)⟩
  · cases h
    cases hr with
    | @lst0 _ _ _ A c hx => exact ⟨A, c, [], rfl, by omega, .nil, (fun p hp => by cases hp), (fun h0 => by omega)⟩
    | @lst _ _ _ _ _ ad c us hn hc hx hb hs hl hcell h1 hr => exact ⟨some ad, c, us, rfl, hc, RelL.up ⟨hl, hr⟩, h1, fun _ => ⟨ad, rfl, hs, hcell⟩⟩
  · rename_i r off len
    split at h
    · rename_i e' cs' sz sl ho
      split at h
      · rename_i hle
        cases h
        cases hr with
        | @row _ _ _ _ l h hk hle' =>
          obtain ⟨o', ho', hrel⟩ := st.obj r l h
          rw [ho] at ho'
          cases ho'
          cases hrel with
          | row hk hs hz h0 hh hl hb hc =>
            obtain ⟨h1, h2⟩ := hc.list
            subst hs
            refine ⟨_, _, _, rfl, by omega, (h1.drop _).take _, fun p hp => h2 p (List.mem_of_mem_drop (List.mem_of_mem_take hp)), fun _ => ⟨_, rfl, rfl, fun i v hv => ?_⟩⟩
            rw [List.getElem?_take] at hv
            split at hv
            · rw [List.getElem?_drop, List.getElem?_take] at hv
              split at hv
              · rw [List.getElem?_drop, Array.getElem?_toList] at hv
                rw [add_plain']
                simp only [World.cell?, hh]
                simpa [Nat.add_assoc] using hv
              · cases hv
            · cases hv
          | row0 hk' => rw [hk] at hk'; cases hk'
        | @row0 _ _ _ l A h he =>
          obtain ⟨o', ho', hrel⟩ := st.obj r l h
          rw [ho] at ho'
          cases ho'
          refine ⟨A, 0, [], rfl, by omega, by simpa using RelL.nil, (fun p hp => by simp at hp), (fun h0 => by omega)⟩
      · cases h
    · cases h
  · cases h
end
end Go.PI

end
section
/- The pure interpreter and its simulation, part 6. -/
set_option linter.unusedSimpArgs false
set_option linter.unusedVariables false
namespace Go.PI
section
variable {C : Cfg} {w : World} {B : Nat → Nat → Prop} {Bs : Nat} {μ : Mu} {H : List HO} {a : Act}

theorem add_spot {ad : Addr} (h : ad.spot = none) (i : Nat) : (ad.add i).spot = none := by unfold Addr.add; split <;> simp_all
theorem add_add {ad : Addr} (h : ad.spot = none) (i j : Nat) : (ad.add i).add j = ad.add (i + j) := by
  obtain ⟨b, o, s⟩ := ad
  simp only at h
  subst h
  rw [add_plain', add_plain', add_plain', Nat.add_assoc]
theorem Rel.lptr_drop {e : Nat} {cs : List PV} {ad : Addr} {B' : Nat → Nat → Prop} {us : List Value} (hb : B' e ad.block) (hs : ad.spot = none) (hrl : RelL w B' mu0 cs us) (hcell : ∀ i u, us[i]? = some u → w.cell? (ad.add i) = some u) (h1 : ∀ p ∈ cs, isCell p = true) (n : Nat) :
    Rel w B' μ (.lptr e (cs.drop n)) (.pointer (some (ad.add n))) := by
  refine .lptr (us.drop n) (by rw [add_block]; exact hb) (add_spot hs n) (hrl.drop n).1 (fun i u hu => ?_) (fun p hp => h1 p (List.mem_of_mem_drop hp)) (hrl.drop n).2
  rw [List.getElem?_drop] at hu
  rw [add_add hs]
  exact hcell _ u hu

theorem run_fieldAt {s f : Nat} {p : PV} {u : Value} {v : PV} (hr : Rel w B μ p u) (h : fieldAddrP C s p f = some v) :
    ∃ x, (Instr.fieldAt s u f).run C.P w = .ok x w ∧ Rel w B μ v x := by
  unfold fieldAddrP at h
  split at h
  · rename_i o t hf
    obtain ⟨fs, d, hu, hd, rfl, rfl⟩ := field_under hf
    split at h
    · cases h
    · rename_i hsz
      have hsz' : ∃ n, szOf C d.type = some n ∧ n ≠ 0 := by
        cases hz : szOf C d.type with
        | none => exact absurd (.inr hz) hsz
        | some n => exact ⟨n, rfl, fun h0 => hsz (.inl (by rw [hz, h0]))⟩
      obtain ⟨n, hn, h0⟩ := hsz'
      have hrun : ∀ ad, (Instr.fieldAt s (.pointer (some ad)) f).run C.P w = .ok (.pointer (some (ad.add d.offset))) w := fun ad => by
        simp [Instr.fieldAt, run_underlying hu, hd, Instr.sureAddr, fieldPlace, run_sizeOf hn, h0]
      split at h
      · cases h
        cases hr with
        | ptr hm => exact ⟨_, hrun _, by rw [add_plain', Nat.add_assoc]; exact .ptr hm⟩
      · rename_i e cs
        split at h
        · cases h
          cases hr with
          | @lptr _ _ _ ad us hb hs hl hcell h1 hr => exact ⟨_, hrun _, Rel.lptr_drop hb hs ⟨hl, hr⟩ hcell h1 _⟩
        · cases h
      · cases h
  · cases h

theorem run_partC {t : Nat} {cs : List PV} {us : Array Value} {off : Nat} {v : PV} (hrl : RelL w B μ cs us.toList) (h1 : ∀ p ∈ cs, isCell p = true) (h : partC C t cs off = some v) :
    ∃ x, (part t us off).run C.P w = .ok x w ∧ Rel w B μ v x := by
  unfold partC loadC at h
  split at h
  · rename_i n hn ha
    split at h
    · rename_i hle
      cases h
      rw [List.length_drop] at hle
      have hl2 : us.size = cs.length := by rw [← hrl.1]; simp
      refine ⟨.agg (us.extract off (off + n)), by simp [part, run_isAgg ha, run_sizeOf hn], .agg ?_ (fun q hq => h1 q (List.mem_of_mem_drop (List.mem_of_mem_take hq))) (fun i q x hq hx => ((hrl.drop off).take n).2 i q x hq ?_)⟩
      · simp; omega
      · have : (us.extract off (off + n)).toList = (us.toList.drop off).take n := by simp
        rw [← this, Array.getElem?_toList]; exact hx
    · cases h
  · rename_i n hn ha
    split at h
    · rw [List.head?_drop] at h
      obtain ⟨x, hx, hr⟩ := hrl.get h
      rw [Array.getElem?_toList] at hx
      exact ⟨x, by simp [part, run_isAgg ha, hx], hr⟩
    · cases h
  · cases h
theorem run_fieldV {s f : Nat} {p : PV} {u : Value} {v : PV} (hr : Rel w B μ p u) (h : fieldV C s p f = some v) :
    ∃ x, (Instr.field s u f).run C.P w = .ok x w ∧ Rel w B μ v x := by
  unfold fieldV at h
  split at h
  · rename_i o t hf
    obtain ⟨fs, d, hu, hd, rfl, rfl⟩ := field_under hf
    split at h
    · cases hr with
      | @agg _ cs us hl h1 hr =>
        obtain ⟨x, hx, hrel⟩ := run_partC (us := us) ⟨by simpa using hl, fun i q x hq hx => hr i q x hq (by simpa using hx)⟩ h1 h
        exact ⟨x, by simp [Instr.field, run_underlying hu, hd, asAgg, hx], hrel⟩
    · cases h
  · cases h

theorem pint_rel {p : PV} {u : Value} {n : Int} (hr : Rel w B μ p u) (h : pint p = some n) : ∃ k, u = .int k n := by
  unfold pint at h
  split at h
  · cases h; exact ⟨_, hr.sInv⟩
  · cases h

theorem run_indexAt {t : Nat} {p i : PV} {u ui : Value} {v : PV} (st : St C B Bs μ H w) (hr : Rel w (Bn B Bs μ H w) μ p u) (hi : Rel w (Bn B Bs μ H w) μ i ui) (h : indexAddrP C H t p i = some v) :
    ∃ x, (Instr.indexAt t u ui).run C.P w = .ok x w ∧ Rel w (Bn B Bs μ H w) μ v x := by
  unfold indexAddrP at h
  split at h
  · rename_i n hn
    obtain ⟨k, rfl⟩ := pint_rel hi hn
    split at h
    · cases h
    · rename_i hneg
      split at h
      · rename_i e he
        have hu := elem_under he
        split at h
        · rename_i sz hsz
          have hrun : ∀ (ad : Addr) (len c : Nat), n < len → (Instr.indexAt t (.slice (some ad) len c) (.int k n)).run C.P w = .ok (.pointer (some (ad.add (n.toNat * sz)))) w := fun ad len c hlt => by
            simp [Instr.indexAt, run_underlying hu, asIntOf, run_sizeOf hsz, show 0 ≤ n ∧ n < len from ⟨by omega, hlt⟩]
          split at h
          · rename_i e' len cs x
            split at h
            · rename_i hlt
              cases h
              cases hr with
              | lst0 => omega
              | @lst _ _ _ _ _ ad c us hn hc hx hb hs hl hcell h1 hr => exact ⟨_, hrun _ _ _ hlt.1, Rel.lptr_drop hb hs ⟨hl, hr⟩ hcell h1 _⟩
            · cases h
          · rename_i r off len
            split at h
            · rename_i e' cs' sz' sl ho
              split at h
              · rename_i hlt
                obtain ⟨rfl, hlt⟩ := hlt
                cases h
                cases hr with
                | @row _ _ _ _ l h hk hle =>
                  obtain ⟨o', ho', hrel⟩ := st.obj r l h
                  rw [ho] at ho'
                  cases ho'
                  refine ⟨_, hrun _ _ _ hlt, ?_⟩
                  cases hrel with
                  | row hk hs hz h0 hh hl hb hc =>
                    subst hs
                    rw [add_plain', Nat.add_assoc, ← Nat.add_mul]
                    exact .ptr h
                  | row0 hk' => rw [hk] at hk'; cases hk'
                | row0 => omega
              · cases h
            · cases h
          · cases h
        · cases h
      · split at h
        · rename_i len e he
          have hu := arr_under he
          split at h
          · rename_i sz hsz
            split at h
            · rename_i hlt
              have hrun : ∀ (ad : Addr), (Instr.indexAt t (.pointer (some ad)) (.int k n)).run C.P w = .ok (.pointer (some (ad.add (n.toNat * sz)))) w := fun ad => by
                simp [Instr.indexAt, run_underlying hu, asIntOf, Instr.sureAddr, run_sizeOf hsz, show 0 ≤ n ∧ n < len from ⟨by omega, hlt⟩]
              split at h
              · cases h
                cases hr with
                | ptr hm => exact ⟨_, hrun _, by rw [add_plain', Nat.add_assoc]; exact .ptr hm⟩
              · split at h
                · cases h
                  cases hr with
                  | @lptr _ _ _ ad us hb hs hl hcell h1 hr => exact ⟨_, hrun _, Rel.lptr_drop hb hs ⟨hl, hr⟩ hcell h1 _⟩
                · cases h
              · cases h
            · cases h
          · cases h
        · cases h
  · cases h
theorem run_indexV {t : Nat} {p i : PV} {u ui : Value} {v : PV} (hr : Rel w B μ p u) (hi : Rel w B μ i ui) (h : indexV C t p i = some v) :
    ∃ x, (Instr.index t u ui).run C.P w = .ok x w ∧ Rel w B μ v x := by
  unfold indexV at h
  split at h
  · rename_i n hn
    obtain ⟨k, rfl⟩ := pint_rel hi hn
    split at h
    · cases h
    · rename_i hneg
      split at h
      · rename_i len e he
        have hu := arr_under he
        split at h
        · rename_i sz cs hsz
          split at h
          · rename_i hlt
            cases hr with
            | @agg _ cs us hl h1 hr =>
              obtain ⟨x, hx, hrel⟩ := run_partC (us := us) ⟨by simpa using hl, fun i q x hq hx => hr i q x hq (by simpa using hx)⟩ h1 h
              exact ⟨x, by simp [Instr.index, run_underlying hu, asIntOf, run_sizeOf hsz, hx, show 0 ≤ n ∧ n < len from ⟨by omega, hlt⟩], hrel⟩
          · cases h
        · cases h
      · cases h
  · cases h

/-- Bounds of a slice expression, read. -/
def optRel (w : World) (B : Nat → Nat → Prop) (μ : Mu) : Option PV → Option Value → Prop
  | none, none => True
  | some p, some u => Rel w B μ p u
  | _, _ => False
theorem run_bound {p : PV} {u : Value} {d n y : Nat} {code : BoundsCode} (hr : Rel w B μ p u) (h : bound (some p) d = some n) (hle : n ≤ y) : (Instr.sliceBound u y code).run C.P w = .ok n w := by
  unfold bound at h
  simp only at h
  split at h
  · rename_i m hm
    split at h
    · rename_i h0
      cases h
      obtain ⟨k, rfl⟩ := pint_rel hr hm
      have : 0 ≤ m ∧ m ≤ (y : Int) := ⟨h0, by omega⟩
      simp [Instr.sliceBound, asIntOf, this]
    · cases h
  · cases h
theorem run_bounds {lo hi : Option PV} {ulo uhi : Option Value} {len cap l h n : Nat} (h1 : optRel w B μ lo ulo) (h2 : optRel w B μ hi uhi) (hl : bound lo 0 = some l) (hh : bound hi n = some h) (hlh : l ≤ h) (hhn : h ≤ n) (hn : n = len) (hc : len ≤ cap) :
    (Instr.sliceBounds true len cap ulo uhi none).run C.P w = .ok (l, h, cap) w := by
  subst hn
  unfold Instr.sliceBounds
  cases hi with
  | none =>
    cases uhi with
    | some _ => exact h2.elim
    | none =>
      simp only [bound, Option.some.injEq] at hh
      subst hh
      cases lo with
      | none =>
        cases ulo with
        | some _ => exact h1.elim
        | none => simp only [bound, Option.some.injEq] at hl; subst hl; simp
      | some p =>
        cases ulo with
        | none => exact h1.elim
        | some u => simp [run_bound (C := C) (code := .sliceB) h1 hl hlh]
  | some q =>
    cases uhi with
    | none => exact h2.elim
    | some uq =>
      have e2 := run_bound (C := C) (w := w) (code := .sliceAcap) h2 hh (show h ≤ cap by omega)
      cases lo with
      | none =>
        cases ulo with
        | some _ => exact h1.elim
        | none => simp only [bound, Option.some.injEq] at hl; subst hl; simp [e2]
      | some p =>
        cases ulo with
        | none => exact h1.elim
        | some u => simp [e2, run_bound (C := C) (code := .sliceB) h1 hl hlh]
theorem run_bounds3 {lo : Option PV} {hi mx : PV} {ulo : Option Value} {uhi umx : Value} {len cap l h n m : Nat} (h1 : optRel w B μ lo ulo) (h2 : Rel w B μ hi uhi) (h3 : Rel w B μ mx umx) (hl : bound lo 0 = some l) (hh : bound (some hi) n = some h) (hm : bound (some mx) 0 = some m) (hlh : l ≤ h) (hhm : h ≤ m) (hc : m ≤ cap) :
    (Instr.sliceBounds true len cap ulo (some uhi) (some umx)).run C.P w = .ok (l, h, m) w := by
  unfold Instr.sliceBounds
  have e3 := run_bound (C := C) (w := w) (code := .slice3Acap) h3 hm hc
  have e2 := run_bound (C := C) (w := w) (code := .slice3B) h2 hh hhm
  cases lo with
  | none =>
    cases ulo with
    | some _ => exact h1.elim
    | none => simp only [bound, Option.some.injEq] at hl; subst hl; simp [e2, e3]
  | some p =>
    cases ulo with
    | none => exact h1.elim
    | some u => simp [e2, e3, run_bound (C := C) (code := .slice3C) h1 hl hlh]
end
end Go.PI

end
section
/- The pure interpreter and its simulation, part 7. -/
set_option linter.unusedSimpArgs false
set_option linter.unusedVariables false
namespace Go.PI
section
variable {C : Cfg} {w : World} {B : Nat → Nat → Prop} {Bs : Nat} {μ : Mu} {H : List HO} {a : Act}

theorem run_sliceAt {t : Nat} {p : PV} {u : Value} {lo hi mx : Option PV} {ulo uhi umx : Option Value} {v : PV} (st : St C B Bs μ H w) (hr : Rel w (Bn B Bs μ H w) μ p u)
    (h1 : optRel w (Bn B Bs μ H w) μ lo ulo) (h2 : optRel w (Bn B Bs μ H w) μ hi uhi) (h3 : optRel w (Bn B Bs μ H w) μ mx umx) (h : sliceP C H t p lo hi mx = some v) :
    ∃ x, (Instr.sliceAt t u ulo uhi umx).run C.P w = .ok x w ∧ Rel w (Bn B Bs μ H w) μ v x := by
  unfold sliceP at h
  split at h
  · rename_i e he
    have hu := elem_under he
    split at h
    · rename_i sz hsz
      have hrun : ∀ (A : Option Addr) (len cap l h m : Nat), (Instr.sliceBounds true len cap ulo uhi umx).run C.P w = .ok (l, h, m) w → (Instr.sliceAt t (.slice A len cap) ulo uhi umx).run C.P w = .ok (.slice (if m = l then A else A.map (·.add (l * sz))) (h - l) (m - l)) w := fun A len cap l h m hb => by
        simp [Instr.sliceAt, run_underlying hu, Instr.slice, hb, run_sizeOf hsz]
      split at h
      · -- nil
        cases hr
        split at h
        · rename_i hl hh
          cases h
          cases umx with
          | some _ => exact h3.elim
          | none => exact ⟨_, hrun none 0 0 0 0 0 (run_bounds h1 h2 hl hh (Nat.le_refl _) (Nat.le_refl _) rfl (Nat.le_refl _)), .s rfl⟩
        · cases h
      · rename_i e' n cs x
        have hlst : ∃ A c, u = .slice A n c ∧ n ≤ c ∧ (x = true → c = n) := by
          cases hr with
          | lst0 hx => exact ⟨_, _, rfl, by omega, fun e => hx e⟩
          | lst us hn hc hx => exact ⟨_, _, rfl, hc, hx⟩
        obtain ⟨A, c, rfl, hc, hx⟩ := hlst
        have key : ∀ (l h m : Nat) (x' : Bool), l ≤ h → h ≤ m → h ≤ n → (m ≤ c) → (x' = true → m = h) → Rel w (Bn B Bs μ H w) μ (.lst e' (h - l) ((cs.drop (l * sz)).take ((h - l) * sz)) x') (.slice (if m = l then A else A.map (·.add (l * sz))) (h - l) (m - l)) := by
          intro l h m x' hlh hhm hhn hmc hx'
          rcases Nat.eq_zero_or_pos (h - l) with h0 | h0
          · rw [h0, Nat.zero_mul, List.take_zero]
            exact .lst0 (fun e => by have := hx' e; omega)
          · cases hr with
            | lst0 => omega
            | @lst _ _ _ _ _ ad _ us hn hc' hx2 hb hs hl hcell h1 hr =>
              rw [if_neg (by omega)]
              have hrl : RelL w (Bn B Bs μ H w) mu0 cs us := ⟨hl, hr⟩
              refine .lst ((us.drop (l * sz)).take ((h - l) * sz)) h0 (by omega) (fun e => by have := hx' e; omega) (by rw [add_block]; exact hb) (add_spot hs _) ((hrl.drop _).take _).1 (fun i v hv => ?_) (fun q hq => h1 q (List.mem_of_mem_drop (List.mem_of_mem_take hq))) ((hrl.drop _).take _).2
              rw [List.getElem?_take] at hv
              split at hv
              · rw [List.getElem?_drop] at hv
                rw [add_add hs]
                exact hcell _ v hv
              · cases hv
        split at h
        · rename_i l hh hl2 hh2
          cases umx with
          | some _ => exact h3.elim
          | none =>
            split at h
            · rename_i hle
              cases h
              refine ⟨_, hrun A n c l hh c (run_bounds h1 h2 hl2 hh2 hle.1 hle.2 rfl hc), key l hh c _ hle.1 (by omega) hle.2 (Nat.le_refl _) (fun e => ?_)⟩
              simp only [Bool.and_eq_true, beq_iff_eq] at e
              have := hx e.1
              omega
            · cases h
        · rename_i l hh m hl2 hh2
          cases umx with
          | none => exact h3.elim
          | some um =>
            split at h
            · rename_i mm hmm
              split at h
              · rename_i hle
                obtain ⟨a1, a2, a3, a4⟩ := hle
                cases h
                cases hi with
                | none => cases a4
                | some q =>
                  cases uhi with
                  | none => exact h2.elim
                  | some uq =>
                    refine ⟨_, hrun A n c l hh mm (run_bounds3 h1 h2 h3 hl2 hh2 hmm a1 a2 (by omega)), key l hh mm _ a1 a2 (by omega) (by omega) (fun e => ?_)⟩
                    simp only [beq_iff_eq] at e
                    omega
              · cases h
            · cases h
        · cases h
      · rename_i r off n
        split at h
        · rename_i e' cs' sz' sl l hh ho hl2 hh2
          cases umx with
          | some _ => exact h3.elim
          | none =>
            split at h
            · rename_i hle
              obtain ⟨rfl, a1, a2⟩ := hle
              cases h
              cases hr with
              | @row _ _ _ _ lc hm hk hcap =>
                obtain ⟨o', ho', hrel⟩ := st.obj r lc hm
                rw [ho] at ho'
                cases ho'
                cases hrel with
                | row hk hs hz h0 hh' hl hb hc =>
                  subst hs
                  refine ⟨_, hrun _ n (lc.cap - off) l hh (lc.cap - off) (run_bounds h1 h2 hl2 hh2 a1 a2 rfl (by omega)), ?_⟩
                  split
                  · rename_i heq
                    have e1 : hh - l = 0 := by omega
                    have e2 : lc.cap - off - l = 0 := by omega
                    rw [e1, e2]
                    exact .row0 hm (by omega)
                  · rw [show lc.cap - off - l = lc.cap - (off + l) by omega]
                    simp only [Option.map_some, add_plain', Nat.add_assoc, ← Nat.add_mul]
                    exact .row hm hk (by omega)
                | row0 hk' => rw [hk] at hk'; cases hk'
              | @row0 _ _ _ lc A hm he =>
                obtain rfl : hh = 0 := by omega
                obtain rfl : l = 0 := by omega
                exact ⟨_, hrun A 0 0 0 0 0 (run_bounds h1 h2 hl2 hh2 a1 a2 rfl (by omega)), by simpa using Rel.row0 hm he⟩
            · cases h
        · cases h
      · cases h
    · cases h
  · cases h

theorem run_equal_bool {t : Nat} (hu : C.P.underlying t = some .bool) (a b : Bool) (w : World) : (Op.equal t (.bool a) (.bool b)).run C.P w = .ok (a == b) w := by
  obtain ⟨d, hd⟩ : ∃ d, Op.maxDepth = d + 1 := ⟨9999, rfl⟩
  unfold Op.equal
  rw [hd]
  simp only [Op.equalIn, Sem.run_bind, run_underlying hu, Result.andThen_ok]
  rfl
theorem run_equal_nil {t e : Nat} (hu : C.P.underlying t = some (.slice e)) (A : Option Addr) (n c : Nat) (w : World) : (Op.equal t (.slice A n c) (.slice none 0 0)).run C.P w = .ok A.isNone w := by
  obtain ⟨d, hd⟩ : ∃ d, Op.maxDepth = d + 1 := ⟨9999, rfl⟩
  unfold Op.equal
  rw [hd]
  simp only [Op.equalIn, Sem.run_bind, run_underlying hu, Result.andThen_ok]
  cases A <;> rfl
theorem binOp_bool_eql (t : Nat) (a b : Bool) : binOp .eql t (.bool a) (.bool b) = (do pure (.bool (← Op.equal t (.bool a) (.bool b)))) := rfl
theorem binOp_bool_neq (t : Nat) (a b : Bool) : binOp .neq t (.bool a) (.bool b) = (do pure (.bool (!(← Op.equal t (.bool a) (.bool b))))) := rfl
theorem binOp_slice_eql (t : Nat) (A A' : Option Addr) (n c n' c' : Nat) : binOp .eql t (.slice A n c) (.slice A' n' c') = (do pure (.bool (← Op.equal t (.slice A n c) (.slice A' n' c')))) := rfl
theorem binOp_slice_neq (t : Nat) (A A' : Option Addr) (n c n' c' : Nat) : binOp .neq t (.slice A n c) (.slice A' n' c') = (do pure (.bool (!(← Op.equal t (.slice A n c) (.slice A' n' c'))))) := rfl
theorem run_binP {op : BinOp} {t : Nat} {x y : Operand} {p q : PV} {v : PV} (hp : Rel w B μ p (a.eval x)) (hq : Rel w B μ q (a.eval y)) (h : binP C op t p q = some v) :
    ∃ u, (do eqGuard op t x y (a.eval x) (a.eval y); binOp op t (a.eval x) (a.eval y) : Sem Value).run C.P w = .ok u w ∧ Rel w B μ v u := by
  unfold binP at h
  split at h
  · rename_i k m k' m'
    rw [hp.sInv, hq.sInv]
    split at h
    · rename_i hop
      unfold shiftV at h
      split at h
      · cases h
      · rename_i hneg
        rcases hop with rfl | rfl
        · simp only [Option.some.injEq] at h; subst h
          exact ⟨.int k (k.wrap (m * 2 ^ min m'.toNat k.bits)), by simp [eqGuard_shl, binOp, Op.shift, hneg], .s rfl⟩
        · simp only [Option.some.injEq] at h; subst h
          exact ⟨.int k (m.fdiv (2 ^ min m'.toNat k.bits)), by simp [eqGuard_shr, binOp, Op.shift, hneg], .s rfl⟩
    · rename_i hop
      split at h
      · rename_i hk
        subst hk
        unfold intBin at h
        cases op <;> simp only [bitsV, Option.map_some, Option.map_none, Option.some.injEq, reduceCtorEq, or_self, or_true, true_or, not_true_eq_false] at h hop <;> first
          | (split at h
             · cases h
             · rename_i hz
               cases h
               exact ⟨_, by simp [eqGuard_at_int, binOp, Op.intDiv, hz], .s rfl⟩)
          | (subst h; exact ⟨_, by simp [eqGuard_at_int, binOp, Op.intArith, Op.intBits, Op.intCmp], .s rfl⟩)
      · cases h
  · rw [hp.sInv, hq.sInv]
    cases op <;> simp only [reduceCtorEq, Option.some.injEq] at h <;> (subst h; exact ⟨_, by simp [eqGuard_at_string, binOp, Op.stringOp], .s rfl⟩)
  · rw [hp.sInv, hq.sInv]
    split at h
    · rename_i hb
      have hu : C.P.underlying t = some .bool := by
        unfold boolT at hb
        split at hb
        · assumption
        · cases hb
      cases op <;> simp only [reduceCtorEq, Option.some.injEq] at h
      · subst h; exact ⟨_, by simp [eqGuard_at_bool, binOp_bool_eql, run_equal_bool hu], .s rfl⟩
      · subst h; exact ⟨_, by simp [eqGuard_at_bool, binOp_bool_neq, run_equal_bool hu], .s rfl⟩
    · cases h
  · rw [hq.sInv]
    split at h
    · rename_i he
      obtain ⟨e, he⟩ := Option.isSome_iff_exists.1 he
      have hu := elem_under he
      have hnil : ∀ b, nilness p = some b → ∃ A n c, a.eval x = .slice A n c ∧ A.isNone = b := by
        intro b hb
        generalize a.eval x = ux at hp
        unfold nilness at hb
        split at hb
        · cases hb; exact ⟨none, 0, 0, hp.sInv, rfl⟩
        · split at hb
          · cases hb
          · cases hb
            cases hp with
            | lst0 => contradiction
            | lst => exact ⟨_, _, _, rfl, rfl⟩
        · split at hb
          · cases hb
          · cases hb
            cases hp with
            | row => exact ⟨_, _, _, rfl, rfl⟩
            | row0 => contradiction
        · cases hb
      cases op <;> simp only [reduceCtorEq] at h
      · obtain ⟨b, hb, rfl⟩ := Option.map_eq_some_iff.1 h
        obtain ⟨A, n, c, hx, rfl⟩ := hnil b hb
        rw [hx]
        exact ⟨_, by simp [eqGuard_at_slice, binOp_slice_eql, run_equal_nil hu], .s rfl⟩
      · obtain ⟨b, hb, rfl⟩ := Option.map_eq_some_iff.1 h
        obtain ⟨A, n, c, hx, rfl⟩ := hnil b hb
        rw [hx]
        exact ⟨_, by simp [eqGuard_at_slice, binOp_slice_neq, run_equal_nil hu], .s rfl⟩
    · cases h
  · cases h
theorem run_unP {op : UnOp} {p : PV} {u : Value} {v : PV} (hp : Rel w B μ p u) (h : unP op p = some v) : ∃ x, (Op.unary op u).run C.P w = .ok x w ∧ Rel w B μ v x := by
  unfold unP at h
  split at h
  · rw [hp.sInv]; cases h; exact ⟨_, by simp [Op.unary], .s rfl⟩
  · rw [hp.sInv]; cases h; exact ⟨_, by simp [Op.unary, Op.intArith], .s rfl⟩
  · rw [hp.sInv]; simp only [bitsV, Option.map_some, Option.some.injEq] at h; subst h; exact ⟨_, by simp [Op.unary, Op.intBits], .s rfl⟩
  · cases h

theorem u8s_rel : ∀ {cs : List PV} {us : List Value} {l : List UInt8}, RelL w B μ cs us → u8s cs = some l → ∃ ns : List Int, us = ns.map (Value.int .u8) ∧ l = ns.map fun n => UInt8.ofNat n.toNat
  | [], us, l, hr, h => by
    cases h
    have := hr.1
    simp at this
    exact ⟨[], by simp [this], rfl⟩
  | p :: cs, us, l, hr, h => by
    obtain ⟨u, us', rfl, hu, hus⟩ := hr.cons_inv
    unfold u8s at h
    split at h
    · contradiction
    · rename_i n ps heq
      cases heq
      obtain ⟨l', hl', rfl⟩ := Option.map_eq_some_iff.1 h
      obtain ⟨ns, rfl, rfl⟩ := u8s_rel hus hl'
      exact ⟨n :: ns, by rw [hu.sInv]; rfl, rfl⟩
    · cases h
end
end Go.PI

end
section
/- The pure interpreter and its simulation, part 8. -/
set_option linter.unusedSimpArgs false
set_option linter.unusedVariables false
namespace Go.PI
section
variable {C : Cfg} {w : World} {B : Nat → Nat → Prop} {Bs : Nat} {μ : Mu} {H : List HO} {a : Act}

theorem push_fold : ∀ (ns : List Int) (s : ByteArray), ns.foldl (fun r n => r.push (UInt8.ofNat n.toNat)) s = ⟨s.data ++ (ns.map fun n => UInt8.ofNat n.toNat).toArray⟩
  | [], s => by cases s; simp
  | n :: ns, s => by
    rw [List.foldl_cons, push_fold ns]
    cases s
    simp [ByteArray.push]
theorem run_convP {src dst : Nat} {p : PV} {u : Value} {v : PV} (st : St C B Bs μ H w) (hr : Rel w (Bn B Bs μ H w) μ p u) (h : convP C H src dst p = some v) :
    ∃ x, (convert src dst u).run C.P w = .ok x w ∧ Rel w (Bn B Bs μ H w) μ v x := by
  unfold convP at h
  split at h
  · rename_i k hk
    split at h
    · split at h
      · rename_i hs
        obtain ⟨k', hk'⟩ := Option.isSome_iff_exists.1 hs
        cases h
        rw [hr.sInv]
        exact ⟨_, by simp [convert, run_underlying (kind_under hk), run_underlying (kind_under hk'), Conv.intToInt], .s rfl⟩
      · cases h
    · cases h
  · split at h
    · rename_i hd
      have hd' : C.P.underlying dst = some .string := by
        unfold strT at hd
        split at hd
        · assumption
        · cases hd
      split at h
      · rename_i e he
        split at h
        · rename_i hk
          split at h
          · rename_i e' n cs hsl
            split at h
            · rename_i hn
              obtain ⟨l, hl, rfl⟩ := Option.map_eq_some_iff.1 h
              obtain ⟨A, c, us, rfl, hnc, hrl, h1, hcell⟩ := slOf_rel st hr hsl
              obtain ⟨ns, rfl, rfl⟩ := u8s_rel hrl hl
              have hlen : ns.length = n := by have := hrl.1; simpa [hn] using this
              have hconv := run_convert_bytes_string w src dst e A n c (elem_under he) (kind_under hk) hd'
              refine ⟨.string ⟨(ns.map fun n => UInt8.ofNat n.toNat).toArray⟩, ?_, .s rfl⟩
              rw [hconv]
              cases A with
              | none =>
                rcases Nat.eq_zero_or_pos n with h0 | h0
                · have : ns = [] := List.eq_nil_of_length_eq_zero (by omega)
                  subst this
                  rfl
                · obtain ⟨ad, had, _⟩ := hcell h0
                  cases had
              | some ad =>
                have hload : (loadCells ad n).run C.P w = .ok (ns.map (Value.int .u8)).toArray w := by
                  have := run_loadCells_list (P := C.P) w ad (ns.map (Value.int .u8)) (fun j x hx => by
                    have h0 : 0 < n := by rw [← hlen]; have := (List.getElem?_eq_some_iff.1 hx).1; simp at this; omega
                    obtain ⟨ad', had, _, hc⟩ := hcell h0
                    cases had
                    exact hc j x hx)
                  rwa [List.length_map, hlen] at this
                rw [run_bytesToString w ad n c ns hload, push_fold]
                simp
            · cases h
          · cases h
        · cases h
      · cases h
    · cases h

theorem run_mapM_list {α β : Type} {P : Program} (f : α → Sem β) (g : α → β) (w : World) : ∀ (l : List α), (∀ x ∈ l, ∀ w, (f x).run P w = .ok (g x) w) → (l.mapM f).run P w = .ok (l.map g) w
  | [], _ => by simp
  | x :: l, h => by
    rw [List.mapM_cons]
    simp [h x (by simp) w, run_mapM_list f g w l (fun y hy => h y (by simp [hy]))]
theorem run_mapM_array {α β : Type} {P : Program} (f : α → Sem β) (g : α → β) (w : World) (as : Array α) (h : ∀ x ∈ as.toList, ∀ w, (f x).run P w = .ok (g x) w) : (as.mapM f).run P w = .ok (as.toList.map g).toArray w := by
  rw [Array.mapM_eq_mapM_toList]
  simp [run_mapM_list f g w as.toList h]

theorem sizesP_get : ∀ {fs : List Field} {l : List (Nat × Nat)}, sizesP C fs = some l → ∃ g : Field → Nat, (∀ f ∈ fs, szOf C f.type = some (g f)) ∧ l = fs.map fun f => (f.offset, g f)
  | [], l, h => by cases h; exact ⟨fun _ => 0, (fun f hf => by cases hf), rfl⟩
  | f :: fs, l, h => by
    unfold sizesP at h
    split at h
    · rename_i n l' hn hl
      cases h
      obtain ⟨g, hg, rfl⟩ := sizesP_get hl
      refine ⟨fun f => (szOf C f.type).getD 0, fun f' hf' => ?_, ?_⟩
      · rcases List.mem_cons.1 hf' with rfl | hf'
        · simp [hn]
        · simp [hg f' hf']
      · simp only [List.map_cons, hn, Option.getD_some]
        congr 1
        exact List.map_congr_left fun f' hf' => by simp [hg f' hf']
    · cases h

theorem setList' (off : Nat) : ∀ (l : List Value) (k : Nat) (pre mid post : List Value) (cs : Array Value), cs.toList = pre ++ (mid ++ post) → pre.length = off + k → mid.length = l.length →
    ((l.zipIdx k).foldl (fun (cs : Array Value) (x : Value × Nat) => cs.setIfInBounds (off + x.2) x.1) cs).toList = pre ++ (l ++ post)
  | [], k, pre, mid, post, cs, h, hp, hm => by
    have : mid = [] := List.eq_nil_of_length_eq_zero hm
    subst this
    simpa using h
  | v :: l, k, pre, mid, post, cs, h, hp, hm => by
    cases mid with
    | nil => simp at hm
    | cons m mid =>
      rw [List.zipIdx_cons, List.foldl_cons, setList' off l (k + 1) (pre ++ [v]) mid post _ ?_ (by simp; omega) (by simpa using hm)]
      · simp
      · simp only [Array.toList_setIfInBounds, h]
        rw [← hp, List.set_append_right _ _ (Nat.le_refl _)]
        simp
theorem setList (l : List Value) (k off : Nat) (cs : Array Value) (h : off + k + l.length ≤ cs.size) :
    ((l.zipIdx k).foldl (fun (cs : Array Value) (x : Value × Nat) => cs.setIfInBounds (off + x.2) x.1) cs).toList = cs.toList.take (off + k) ++ (l ++ cs.toList.drop (off + k + l.length)) := by
  refine setList' off l k (cs.toList.take (off + k)) ((cs.toList.drop (off + k)).take l.length) _ cs ?_ (by simp; omega) (by simp; omega)
  rw [show cs.toList.drop (off + k + l.length) = (cs.toList.drop (off + k)).drop l.length from by rw [List.drop_drop], List.take_append_drop, List.take_append_drop]

theorem run_fill {place : Nat → Option (Nat × Nat)} : ∀ {parts : List (Nat × PV)} {uparts : List (Nat × Value)} {cells : List PV} {ucells : Array Value} {out : List PV},
    (parts.map (·.1) = uparts.map (·.1)) → RelL w B μ (parts.map (·.2)) (uparts.map (·.2)) → RelL w B μ cells ucells.toList → (∀ p ∈ cells, isCell p = true) → fillP place cells parts = some out →
    ∃ uout, Instr.fill place ucells uparts = some uout ∧ RelL w B μ out uout.toList ∧ (∀ p ∈ out, isCell p = true) ∧ out.length = cells.length
  | [], uparts, cells, ucells, out, hk, hp, hc, h1, h => by
    cases h
    have : uparts = [] := by cases uparts with | nil => rfl | cons => simp at hk
    subst this
    exact ⟨ucells, rfl, hc, h1, rfl⟩
  | (i, v) :: rest, uparts, cells, ucells, out, hk, hp, hc, h1, h => by
    cases uparts with
    | nil => simp at hk
    | cons q urest =>
      obtain ⟨i', u⟩ := q
      simp only [List.map_cons, List.cons.injEq] at hk
      obtain ⟨rfl, hk⟩ := hk
      simp only [List.map_cons] at hp
      obtain ⟨u', us', he, hv, hps⟩ := hp.cons_inv
      simp only [List.cons.injEq] at he
      obtain ⟨rfl, rfl⟩ := he
      unfold fillP at h
      split at h
      · cases h
      · rename_i off size hpl
        split at h
        · rename_i hcond
          obtain ⟨e1, e2, e3⟩ := hcond
          obtain ⟨hrc, hone⟩ := rel_cells hv e3
          have hsz : u.cells.size = size := by have := hrc.1; simp at this; omega
          have hcs : ucells.size = cells.length := by have := hc.1; simpa using this
          have hrs := hc.splice hrc off
          have hl := setList u.cells.toList 0 off ucells (by simp; omega)
          simp only [Nat.add_zero] at hl
          have hfold : (u.cells.zipIdx.foldl (fun cs (x : Value × Nat) => cs.setIfInBounds (off + x.2) x.1) ucells).toList = ucells.toList.take off ++ (u.cells.toList ++ ucells.toList.drop (off + u.cells.toList.length)) := by
            rw [← hl, ← Array.foldl_toList]
            congr 2
            simp
          have hcell' : ∀ p ∈ splice cells off (pcells v), isCell p = true := by
            intro p hp
            unfold splice at hp
            rcases List.mem_append.1 hp with hp | hp
            · exact h1 p (List.mem_of_mem_take hp)
            · rcases List.mem_append.1 hp with hp | hp
              · exact List.all_eq_true.1 e3 p hp
              · exact h1 p (List.mem_of_mem_drop hp)
          obtain ⟨uout, ho, hro, h1o, hlo⟩ := run_fill (ucells := u.cells.zipIdx.foldl (fun cs (x : Value × Nat) => cs.setIfInBounds (off + x.2) x.1) ucells) hk hps (by rw [hfold]; exact hrs) hcell' h
          refine ⟨uout, ?_, hro, h1o, ?_⟩
          · unfold Instr.fill
            simp only [hpl, hsz, ne_eq, not_true_eq_false, decide_false, Bool.false_or]
            rw [if_neg (by simp; omega)]
            exact ho
          · rw [hlo]
            unfold splice
            simp
            omega
        · cases h

theorem run_buildP {t : Nat} {parts : List (Nat × PV)} {uparts : List (Nat × Value)} {v : PV} (hk : parts.map (·.1) = uparts.map (·.1)) (hp : RelL w B μ (parts.map (·.2)) (uparts.map (·.2))) (h : buildP C t parts = some v) :
    ∃ x, (Instr.build t uparts.toArray).run C.P w = .ok x w ∧ Rel w B μ v x := by
  unfold buildP at h
  split at h
  · rename_i z hz
    obtain ⟨zv, rfl, hsc, hzr⟩ := run_zero hz
    have hrz : RelL w B μ (zv.cells.toList.map PV.s) zv.cells.toList := rel_scal_list hsc
    have hz1 : ∀ p ∈ zv.cells.toList.map PV.s, isCell p = true := by
      intro p hp
      obtain ⟨x, hx, rfl⟩ := List.mem_map.1 hp
      exact List.all_eq_true.1 hsc x hx
    split at h
    · rename_i pl hpl
      unfold placesP at hpl
      split at hpl
      · rename_i fs hu
        obtain ⟨g, hg, rfl⟩ := sizesP_get hpl
        obtain ⟨out, ho, rfl⟩ := Option.map_eq_some_iff.1 h
        obtain ⟨uout, hf, hro, h1o, _⟩ := run_fill (w := w) hk hp hrz hz1 ho
        refine ⟨.agg uout, ?_, .agg (by have := hro.1; simpa using this) h1o (fun i q x hq hx => hro.2 i q x hq (by simpa using hx))⟩
        have hm : (fs.mapM fun f => do pure (f.offset, ← sizeOf f.type) : Sem (Array (Nat × Nat))).run C.P w = .ok (fs.toList.map fun f => (f.offset, g f)).toArray w :=
          run_mapM_array _ _ w fs (fun f hf w => by simp [run_sizeOf (hg f hf)])
        have hf' : Instr.fill (fun i => (fs.toList.map fun f => (f.offset, g f)).toArray[i]?) zv.cells uparts = some uout := by
          rw [← hf]; congr 1; funext i; simp
        unfold Instr.build
        simp only [Sem.run_bind, hzr w, Result.andThen_ok, run_underlying hu, hm]
        rw [hf']
        rfl
      · cases hpl
    · split at h
      · rename_i n e ha
        split at h
        · rename_i sz hsz
          obtain ⟨out, ho, rfl⟩ := Option.map_eq_some_iff.1 h
          obtain ⟨uout, hf, hro, h1o, _⟩ := run_fill (w := w) hk hp hrz hz1 ho
          refine ⟨.agg uout, ?_, .agg (by have := hro.1; simpa using this) h1o (fun i q x hq hx => hro.2 i q x hq (by simpa using hx))⟩
          unfold Instr.build
          simp only [Sem.run_bind, hzr w, Result.andThen_ok, run_underlying (arr_under ha), run_sizeOf hsz]
          rw [hf]
          rfl
        · cases h
      · cases h
  · cases h

theorem repl_cells (n : Nat) (z : Array Value) (h0 : 0 < z.size) : ((Array.range (n * z.size)).map (fun i => z[i % z.size]!)).toList = (List.replicate n z.toList).flatten := by
  induction n with
  | zero => simp
  | succ n ih =>
    rw [List.replicate_succ', List.flatten_append, ← ih]
    simp only [Array.toList_map, Array.toList_range, List.flatten_cons, List.flatten_nil, List.append_nil]
    rw [Nat.succ_mul, List.range_add, List.map_append, List.map_map]
    congr 1
    apply List.ext_getElem?
    intro i
    rw [List.getElem?_map]
    by_cases hi : i < z.size
    · rw [List.getElem?_range hi]
      simp only [Option.map_some, Function.comp, Array.getElem?_toList]
      rw [Nat.mul_comm, Nat.mul_add_mod, Nat.mod_eq_of_lt hi]
      simp [hi]
    · rw [List.getElem?_eq_none (by simp; omega), List.getElem?_eq_none (by simp; omega)]
      rfl
end
end Go.PI

end
section
/- The pure interpreter and its simulation, part 9. -/
set_option linter.unusedSimpArgs false
set_option linter.unusedVariables false
namespace Go.PI
section
variable {C : Cfg} {w : World} {B : Nat → Nat → Prop} {Bs : Nat} {μ : Mu} {H Hb : List HO} {a : Act}

/-- A heap that holds at least what another one does. -/
def HLe (H Hb : List HO) : Prop := ∀ (r : Nat) (o : HO), H[r]? = some o → Hb[r]? = some o
theorem HLe.refl (H : List HO) : HLe H H := fun _ _ h => h
theorem HLe.trans {H1 H2 H3 : List HO} (h : HLe H1 H2) (k : HLe H2 H3) : HLe H1 H3 := fun r o ho => k r o (h r o ho)
theorem HLe.append (H new : List HO) : HLe H (H ++ new) := fun r o h => by rw [List.getElem?_append_left (List.getElem?_eq_some_iff.1 h).1]; exact h
theorem HLe.new {H new Hb : List HO} (h : HLe (H ++ new) Hb) {i : Nat} {o : HO} (hi : new[i]? = some o) : Hb[H.length + i]? = some o := h _ _ (by rw [List.getElem?_append_right (by omega)]; simpa using hi)
theorem loadP_le (hle : HLe H Hb) {t : Nat} {p v : PV} (h : loadP C H t p = some v) : loadP C Hb t p = some v := by
  unfold loadP at h ⊢
  split at h
  · exact h
  · split at h
    · rename_i ho; simp only [hle _ _ ho]; exact h
    · cases h
  · cases h
theorem slOf_le (hle : HLe H Hb) {p : PV} {x} (h : slOf H p = some x) : slOf Hb p = some x := by
  unfold slOf at h ⊢
  split at h
  · exact h
  · exact h
  · split at h
    · rename_i ho; simp only [hle _ _ ho]; exact h
    · cases h
  · cases h
theorem indexAddrP_le (hle : HLe H Hb) {t : Nat} {p i v : PV} (h : indexAddrP C H t p i = some v) : indexAddrP C Hb t p i = some v := by
  unfold indexAddrP at h ⊢
  split at h
  · split at h
    · cases h
    · rename_i hneg
      simp only [hneg, if_false]
      split at h
      · split at h
        · split at h
          · exact h
          · split at h
            · rename_i ho; simp only [hle _ _ ho]; exact h
            · cases h
          · cases h
        · cases h
      · exact h
  · cases h
theorem sliceP_le (hle : HLe H Hb) {t : Nat} {p v : PV} {lo hi mx : Option PV} (h : sliceP C H t p lo hi mx = some v) : sliceP C Hb t p lo hi mx = some v := by
  unfold sliceP at h ⊢
  split at h
  · split at h
    · split at h
      · exact h
      · exact h
      · split at h
        · rename_i ho hl hh; simp only [hle _ _ ho, hl, hh]; exact h
        · cases h
      · cases h
    · cases h
  · cases h
theorem convP_le (hle : HLe H Hb) {s d : Nat} {p v : PV} (h : convP C H s d p = some v) : convP C Hb s d p = some v := by
  unfold convP at h ⊢
  split at h
  · exact h
  · split at h
    · rename_i hd
      simp only [hd, if_true]
      split at h
      · split at h
        · rename_i hk
          simp only [hk, if_true]
          split at h
          · rename_i hs; simp only [slOf_le hle hs]; exact h
          · cases h
        · cases h
      · cases h
    · cases h

theorem updMu_ext {r : Nat} (hr : μ r = none) (l : Loc) : ∀ r' l', μ r' = some l' → updMu μ r l r' = some l' := fun r' l' h => by
  rw [updMu_other]
  · exact h
  · rintro rfl
    rw [hr] at h
    cases h
theorem St.allocBox (st : St C B Bs μ Hb w) {r : Nat} (hr : μ r = none) {e : Nat} {cs : List PV} {cur : Array Value} (ho : Hb[r]? = some (.cells e cs none false))
    (hrel : RelL w (Bn B Bs μ Hb w) μ cs cur.toList) (h1 : ∀ p ∈ cs, isCell p = true) :
    St C B Bs (updMu μ r ⟨w.heap.size, 0, 0, 0, true⟩) Hb (w.alloc (.cells cur e)) ∧ Ext μ Hb w (updMu μ r ⟨w.heap.size, 0, 0, 0, true⟩) Hb (w.alloc (.cells cur e)) := by
  refine st.alloc hr ho _ _ (fun _ => rfl) (fun B' μ' he hre => .box rfl (World.alloc_heap_new _ _) (fun i p hp => ?_))
  obtain ⟨u, hu, hpu⟩ := hrel.get hp
  exact ⟨u, by simpa using hu, h1 p (mem_of_get hp), hre p u hpu⟩
theorem St.allocRow (st : St C B Bs μ Hb w) {r : Nat} (hr : μ r = none) {e sz cap : Nat} {cs : List PV} {cur : Array Value} {us : List Value} (ho : Hb[r]? = some (.cells e cs (some sz) false))
    (hrel : RelL w (Bn B Bs μ Hb w) μ cs us) (hus : ∀ (i : Nat) (u : Value), us[i]? = some u → cur[i]? = some u) (h1 : ∀ p ∈ cs, isCell p = true) (hz : szOf C e = some sz) (h0 : 0 < sz) (hl : cs.length ≤ cap * sz) (hc : cap * sz ≤ cur.size) :
    St C B Bs (updMu μ r ⟨w.heap.size, 0, cap, sz, true⟩) Hb (w.alloc (.cells cur e)) ∧ Ext μ Hb w (updMu μ r ⟨w.heap.size, 0, cap, sz, true⟩) Hb (w.alloc (.cells cur e)) := by
  refine st.alloc hr ho _ _ (fun _ => rfl) (fun B' μ' he hre => .row rfl rfl hz h0 (World.alloc_heap_new _ _) hl (by simpa using hc) (fun i p hp => ?_))
  obtain ⟨u, hu, hpu⟩ := hrel.get hp
  exact ⟨u, by simpa using hus i u hu, h1 p (mem_of_get hp), hre p u hpu⟩

/-- What an operation that only reads, or lays anew, comes to in the model. -/
def QSim (C : Cfg) (B : Nat → Nat → Prop) (Bs : Nat) (a : Act) (o : Oper) (Hb : List HO) (μ : Mu) (w : World) (m k : Nat) (v : PV) : Prop :=
  ∃ u w' μ', (execOp a.eval o).run C.P w = .ok (.value u) w' ∧ St C B Bs μ' Hb w' ∧ Ext μ Hb w μ' Hb w' ∧ Rel w' (Bn B Bs μ' Hb w') μ' v u ∧ ∀ r, (r < m ∨ m + k ≤ r) → μ' r = μ r
theorem QSim.read (st : St C B Bs μ Hb w) {o : Oper} {m k : Nat} {v : PV} {u : Value} (hrun : (execOp a.eval o).run C.P w = .ok (.value u) w) (hr : Rel w (Bn B Bs μ Hb w) μ v u) : QSim C B Bs a o Hb μ w m k v :=
  ⟨u, w, μ, hrun, st, .refl _ _ _, hr, fun _ _ => rfl⟩
theorem QSim.box (st : St C B Bs μ Hb w) {o : Oper} {m : Nat} (hm : μ m = none) {e : Nat} {cs : List PV} {cur : Array Value} (ho : Hb[m]? = some (.cells e cs none false))
    (hrel : RelL w (Bn B Bs μ Hb w) μ cs cur.toList) (h1 : ∀ p ∈ cs, isCell p = true) (hrun : (execOp a.eval o).run C.P w = .ok (.value (.pointer (some ⟨w.heap.size, 0, none⟩))) (w.alloc (.cells cur e))) : QSim C B Bs a o Hb μ w m 1 (.ptr m 0) := by
  obtain ⟨st', he⟩ := st.allocBox hm ho hrel h1
  refine ⟨_, _, _, hrun, st', he, ?_, fun r hr => updMu_other _ _ (by omega)⟩
  exact Rel.ptr (l := ⟨w.heap.size, 0, 0, 0, true⟩) (updMu_self _ _ _)
theorem QSim.row (st : St C B Bs μ Hb w) {o : Oper} {m : Nat} (hm : μ m = none) {e sz n : Nat} {cs : List PV} {cur : Array Value} (ho : Hb[m]? = some (.cells e cs (some sz) false))
    (hrel : RelL w (Bn B Bs μ Hb w) μ cs cur.toList) (h1 : ∀ p ∈ cs, isCell p = true) (hz : szOf C e = some sz) (h0 : 0 < sz) (hl : cs.length = n * sz) (hrun : (execOp a.eval o).run C.P w = .ok (.value (.slice (some ⟨w.heap.size, 0, none⟩) n n)) (w.alloc (.cells cur e))) : QSim C B Bs a o Hb μ w m 1 (.row m 0 n) := by
  obtain ⟨st', he⟩ := st.allocRow hm (cap := n) ho hrel (fun i u hu => by simpa using hu) h1 hz h0 (by omega) (by have := hrel.1; simp at this; omega)
  refine ⟨_, _, _, hrun, st', he, ?_, fun r hr => updMu_other _ _ (by omega)⟩
  have := Rel.row (w := w.alloc (.cells cur e)) (B := Bn B Bs (updMu μ m ⟨w.heap.size, 0, n, sz, true⟩) Hb (w.alloc (.cells cur e))) (r := m) (off := 0) (len := n) (l := ⟨w.heap.size, 0, n, sz, true⟩) (updMu_self μ m _) rfl (by simp)
  simpa using this
theorem relL_map {g : List PV} {B' : Nat → Nat → Prop} : ∀ {l : List Operand}, (∀ x ∈ l, Rel w B' μ (opnd C g x) (a.eval x)) → RelL w B' μ (l.map (opnd C g)) (l.map a.eval)
  | [], _ => .nil
  | x :: l, h => .cons (h x (by simp)) (relL_map fun y hy => h y (by simp [hy]))
theorem wrap_i64 {n : Int} (h0 : 0 ≤ n) (h1 : n.toNat ≤ room) : IntKind.i64.wrap n = n := by
  simp only [room] at h1
  have e : IntKind.i64.wrap n = if (n % 2 ^ 64 : Int) ≥ 2 ^ 63 then n % 2 ^ 64 - 2 ^ 64 else n % 2 ^ 64 := by
    simp [IntKind.wrap, IntKind.bits, IntKind.signed]
  rw [e]
  split <;> omega
end
end Go.PI

end
section
/- The pure interpreter and its simulation, part 10. -/
set_option linter.unusedSimpArgs false
set_option linter.unusedVariables false
namespace Go.PI
section
variable {C : Cfg} {w : World} {B : Nat → Nat → Prop} {Bs : Nat} {μ : Mu} {H Hb : List HO} {a : Act}

theorem optRel_map {B' : Nat → Nat → Prop} {g : List PV} {x : Option Operand} (h : ∀ y, x = some y → Rel w B' μ (opnd C g y) (a.eval y)) : optRel w B' μ (x.map (opnd C g)) (x.map a.eval) := by
  cases x with
  | none => simp [optRel]
  | some y => simpa [optRel] using h y rfl
theorem relA {B' : Nat → Nat → Prop} {g : List PV} {l : Array Operand} (h : ∀ x ∈ l.toList, Rel w B' μ (opnd C g x) (a.eval x)) : RelL w B' μ (l.toList.map (opnd C g)) (l.map a.eval).toList := by
  rw [Array.toList_map]
  exact relL_map h
theorem relParts {B' : Nat → Nat → Prop} {g : List PV} : ∀ {l : List (Nat × Operand)}, (∀ x ∈ l.map (·.2), Rel w B' μ (opnd C g x) (a.eval x)) →
    ((l.map fun (i, x) => (i, opnd C g x)).map (·.1) = (l.map fun (i, x) => (i, a.eval x)).map (·.1)) ∧ RelL w B' μ ((l.map fun (i, x) => (i, opnd C g x)).map (·.2)) ((l.map fun (i, x) => (i, a.eval x)).map (·.2))
  | [], _ => ⟨rfl, .nil⟩
  | (i, x) :: l, h => by
    obtain ⟨h1, h2⟩ := relParts (l := l) fun y hy => h y (by simp at hy ⊢; exact .inr hy)
    exact ⟨by simp only [List.map_cons, h1], .cons (h x (by simp)) h2⟩

theorem scal_cells {z : Value} {B' : Nat → Nat → Prop} (h : z.cells.toList.all scal = true) : RelL w B' μ (z.cells.toList.map PV.s) z.cells.toList ∧ ∀ p ∈ z.cells.toList.map PV.s, isCell p = true :=
  ⟨rel_scal_list h, fun p hp => by
    obtain ⟨x, hx, rfl⟩ := List.mem_map.1 hp
    exact List.all_eq_true.1 h x hx⟩
theorem repl_length (n : Nat) (z : List PV) : (repl n z).length = n * z.length := by simp [repl]
theorem repl_isCell {n : Nat} {z : List PV} (h : ∀ p ∈ z, isCell p = true) : ∀ p ∈ repl n z, isCell p = true := by
  intro p hp
  simp only [repl, List.mem_flatten, List.mem_replicate] at hp
  obtain ⟨l, ⟨_, rfl⟩, hp⟩ := hp
  exact h p hp
theorem run_newVar (t : TypeId) (v : Value) (w : World) : (newVar t v).run C.P w = .ok ⟨w.heap.size, 0, none⟩ (w.alloc (.cells v.cells t)) := by simp [newVar, newRow]

theorem run_typeInfo {t : Nat} {i : TypeInfo} (hi : C.P.info? t = some i) (w : World) : (typeInfo t).run C.P w = .ok i w := by simp [typeInfo, hi]

theorem sim_alloc (st : St C B Bs μ Hb w) {o : Oper} {e : Nat} {z : List PV} (ho : o.op = .alloc e) (hz : zeroP C e = some z) (hb : Hb[H.length]? = some (.cells e z none false)) (hm : μ H.length = none) : QSim C B Bs a o Hb μ w H.length 1 (.ptr H.length 0) := by
  obtain ⟨v, rfl, hs, hr⟩ := run_zero hz
  obtain ⟨h1, h2⟩ := scal_cells (w := w) (μ := μ) (B' := Bn B Bs μ Hb w) hs
  exact .box st hm hb h1 h2 (by simp [execOp, ho, Instr.alloc, hr, run_newVar])
theorem sim_box (st : St C B Bs μ Hb w) {o : Oper} {e : Nat} {x : Operand} {p : PV} (ho : o.op = .box e x) (hp : Rel w (Bn B Bs μ Hb w) μ p (a.eval x)) (h1 : (pcells p).all isCell = true) (hb : Hb[H.length]? = some (.cells e (pcells p) none false)) (hm : μ H.length = none) : QSim C B Bs a o Hb μ w H.length 1 (.ptr H.length 0) := by
  obtain ⟨h2, _⟩ := rel_cells hp h1
  exact .box st hm hb h2 (fun p hp => List.all_eq_true.1 h1 p hp) (by simp [execOp, ho, Instr.box, run_newVar])
theorem sim_buildSlice (st : St C B Bs μ Hb w) {o : Oper} {t len e sz : Nat} {parts : Array (Nat × Operand)} {ps : List (Nat × PV)} {z cs : List PV} (ho : o.op = .buildSlice t len parts) (he : elemP C t = some e) (hsz : szOf C e = some sz) (hz : zeroP C e = some z)
    (h24 : len * sz ≤ 2 ^ 24) (h0 : 0 < sz) (hzl : z.length = sz) (hk : ps.map (·.1) = (parts.toList.map fun (i, x) => (i, a.eval x)).map (·.1)) (hp : RelL w (Bn B Bs μ Hb w) μ (ps.map (·.2)) ((parts.toList.map fun (i, x) => (i, a.eval x)).map (·.2)))
    (hf : fillP (fun i => some (i * sz, sz)) (repl len z) ps = some cs) (hb : Hb[H.length]? = some (.cells e cs (some sz) false)) (hm : μ H.length = none) : QSim C B Bs a o Hb μ w H.length 1 (.row H.length 0 len) := by
  obtain ⟨v, rfl, hs, hr⟩ := run_zero hz
  obtain ⟨h1, h2⟩ := scal_cells (w := w) (μ := μ) (B' := Bn B Bs μ Hb w) hs
  simp only [List.length_map, Array.length_toList] at hzl
  have hc0 : RelL w (Bn B Bs μ Hb w) μ (repl len (v.cells.toList.map PV.s)) ((Array.range (len * sz)).map (fun i => v.cells[i % v.cells.size]!)).toList := by
    rw [← hzl, repl_cells len v.cells (by omega)]
    exact h1.flatten
  obtain ⟨uout, hfo, hro, h1o, hlo⟩ := run_fill hk hp hc0 (repl_isCell h2) hf
  refine .row st hm hb hro h1o hsz h0 (by rw [hlo, repl_length]; simp [hzl]) ?_
  have hn24 : ¬ (2 ^ 24 < len * sz) := by omega
  have hrun : (Instr.buildSlice t len (parts.map fun (i, x) => (i, a.eval x))).run C.P w = .ok (.slice (some ⟨w.heap.size, 0, none⟩) len len) (w.alloc (.cells uout e)) := by
    unfold Instr.buildSlice
    simp only [Sem.run_bind, run_underlying (elem_under he), Result.andThen_ok, run_sizeOf hsz]
    rw [if_neg (by omega)]
    by_cases hl0 : len * sz = 0
    · have hlen : len = 0 := by
        rcases Nat.mul_eq_zero.1 hl0 with h | h
        · exact h
        · omega
      subst hlen
      simp only [Nat.zero_mul, if_true, Sem.run_bind, Sem.run_pure, Result.andThen_ok]
      have : ((Array.range 0).map fun x => (#[] : Array Value)[x % (#[] : Array Value).size]!) = (Array.range (0 * sz)).map (fun i => v.cells[i % v.cells.size]!) := by simp
      rw [this, Array.toList_map, hfo]
      simp [newRow]
    · simp only [hl0, if_false, Sem.run_bind, hr, Result.andThen_ok, Sem.run_pure]
      rw [Array.toList_map, hfo]
      simp [newRow]
  simp only [execOp, ho, Sem.run_bind, hrun, Result.andThen_ok, Sem.run_pure]
theorem sim_makeSlice (st : St C B Bs μ Hb w) {o : Oper} {t e sz b : Nat} {l c : Operand} {n : Int} {z : List PV} (ho : o.op = .makeSlice t l c) (he : elemP C t = some e) (hsz : szOf C e = some sz) (hby : bytesOf C e = some b) (hz : zeroP C e = some z)
    (hl : a.eval l = .int .i64 n) (hc : a.eval c = .int .i64 n) (hn : 0 ≤ n) (hbn : b * n.toNat ≤ room) (hnr : n.toNat ≤ room) (h0 : 0 < sz) (hzl : z.length = sz)
    (hb : Hb[H.length]? = some (.cells e (repl n.toNat z) (some sz) false)) (hm : μ H.length = none) : QSim C B Bs a o Hb μ w H.length 1 (.row H.length 0 n.toNat) := by
  obtain ⟨v, rfl, hs, hr⟩ := run_zero hz
  obtain ⟨h1, h2⟩ := scal_cells (w := w) (μ := μ) (B' := Bn B Bs μ Hb w) hs
  simp only [List.length_map, Array.length_toList] at hzl
  obtain ⟨i, hi, hib⟩ := run_typeInfo_bytes hby
  have hc0 : RelL w (Bn B Bs μ Hb w) μ (repl n.toNat (v.cells.toList.map PV.s)) ((Array.range (n.toNat * sz)).map (fun i => v.cells[i % v.cells.size]!)).toList := by
    rw [← hzl, repl_cells n.toNat v.cells (by omega)]
    exact h1.flatten
  refine .row (cur := (Array.range (n.toNat * sz)).map (fun i => v.cells[i % v.cells.size]!)) st hm hb hc0 (repl_isCell h2) hsz h0 (by rw [repl_length]; simp [hzl]) ?_
  have hw : IntKind.i64.wrap n = n := wrap_i64 hn hnr
  have hbn' : (b : Int) * n ≤ 70368744177664 := by
    have : (b : Int) * n = ((b * n.toNat : Nat) : Int) := by rw [Int.natCast_mul, Int.toNat_of_nonneg hn]
    rw [this]
    simp only [room] at hbn
    omega
  have hrun : (Instr.makeSlice t (.int .i64 n) (.int .i64 n)).run C.P w = .ok (.slice (some ⟨w.heap.size, 0, none⟩) n.toNat n.toNat) (w.alloc (.cells ((Array.range (n.toNat * sz)).map (fun i => v.cells[i % v.cells.size]!)) e)) := by
    unfold Instr.makeSlice
    have e1 : ¬ (n < 0) := by omega
    have e2 : ¬ ((b : Int) * n > 2 ^ 48) := by omega
    simp only [Sem.run_bind, run_underlying (elem_under he), Result.andThen_ok, asInt, asIntOf, Sem.run_pure, run_typeInfo hi, hw, hib]
    simp only [e1, e2, decide_false, Bool.or_false, Bool.false_eq_true, if_false, Int.lt_irrefl, decide_false, gt_iff_lt, Sem.run_bind, Go.Room.run_askRoom, Result.andThen_ok, run_sizeOf hsz]
    by_cases hl0 : n.toNat * sz = 0
    · have : n.toNat = 0 := by
        rcases Nat.mul_eq_zero.1 hl0 with h | h
        · exact h
        · omega
      have hr0 : Array.range 0 = #[] := by decide
      simp [hl0, newRow, this, hr0]
    · simp [hl0, hr, newRow]
  simp only [execOp, ho, hl, hc, Sem.run_bind, hrun, Result.andThen_ok, Sem.run_pure]
theorem sim_makeMap (st : St C B Bs μ Hb w) {o : Oper} {t : Nat} {r : Option Operand} (ho : o.op = .makeMap t r) (hr : (Instr.makeMap t (r.map a.eval)).run C.P w = .ok (.map (some w.heap.size)) (w.alloc (.map #[] 0)))
    (hb : Hb[H.length]? = some (.map [])) (hm : μ H.length = none) : QSim C B Bs a o Hb μ w H.length 1 (.map H.length) := by
  obtain ⟨st', he⟩ := st.alloc hm hb (.map #[] 0) ⟨w.heap.size, 0, 0, 0, true⟩ (fun _ => rfl) (fun B' μ' he hre => .map (ents := #[]) (clock := 0) rfl (World.alloc_heap_new _ _) rfl (fun i k p hp => by simp at hp))
  refine ⟨_, _, _, ?_, st', he, Rel.map (l := ⟨w.heap.size, 0, 0, 0, true⟩) (updMu_self _ _ _), fun r hr => updMu_other _ _ (by omega)⟩
  simp only [execOp, ho, Sem.run_bind, hr, Result.andThen_ok, Sem.run_pure]

theorem goInt_rel {n : Nat} {B' : Nat → Nat → Prop} : Rel w B' μ (i64P n) (goInt n) := .s rfl
/-- An operation that writes nothing that was there. -/
theorem qop_sim (st : St C B Bs μ Hb w) {o : Oper} {g : List PV} {v : PV} {new : List HO} (hq : qop C o g H = some (v, new)) (hle : HLe (H ++ new) Hb) (hm : ∀ r, H.length ≤ r → r < H.length + new.length → μ r = none)
    (hx : ∀ x ∈ o.op.operands.toList, Rel w (Bn B Bs μ Hb w) μ (opnd C g x) (a.eval x)) : QSim C B Bs a o Hb μ w H.length new.length v := by
  have hH : HLe H Hb := (HLe.append H new).trans hle
  have one : ∀ {p : Option PV}, (p.map fun v => (v, ([] : List HO))) = some (v, new) → p = some v := by
    intro p h
    obtain ⟨q, rfl, hq⟩ := Option.map_eq_some_iff.1 h
    cases hq
    rfl
  unfold qop at hq
  simp only at hq
  split at hq
  · rename_i x ho
    cases one hq
    simp [ho, Op.operands] at hx
    exact .read st (by simp [execOp, ho]) hx
  · rename_i x ho
    cases one hq
    simp [ho, Op.operands] at hx
    exact .read st (by simp [execOp, ho]) hx
  · rename_i c x y ho
    simp [ho, Op.operands] at hx
    split at hq
    · rename_i t hc
      have hcv := hx.1
      rw [hc] at hcv
      cases one hq
      refine .read st (u := if t then a.eval x else a.eval y) (by simp [execOp, ho, hcv.sInv, asBool]) ?_
      cases t
      · exact hx.2.2
      · exact hx.2.1
    · cases hq
  · rename_i e ho
    obtain ⟨z, hz, he⟩ := Option.map_eq_some_iff.1 hq
    cases he
    exact sim_alloc st ho hz (hle.new (i := 0) rfl) (hm _ (by omega) (by simp))
  · rename_i e x ho
    simp [ho, Op.operands] at hx
    split at hq
    · rename_i h1
      cases hq
      exact sim_box st ho hx h1 (hle.new (i := 0) rfl) (hm _ (by omega) (by simp))
    · cases hq
  · rename_i t parts ho
    obtain ⟨hk, hp⟩ := relParts (l := parts.toList) (fun x hx' => hx x (by simpa [ho, Op.operands] using hx'))
    obtain ⟨u, hu, hr⟩ := run_buildP (w := w) hk hp (one hq)
    have e : (parts.toList.map fun (x : Nat × Operand) => match x with | (i, x) => (i, a.eval x)).toArray = parts.map fun x => (x.1, a.eval x.2) := by apply Array.ext'; simp
    rw [e] at hu
    exact .read st (by simp only [execOp, ho, Sem.run_bind, hu, Result.andThen_ok, Sem.run_pure]) hr
  · rename_i t len parts ho
    obtain ⟨hk, hp⟩ := relParts (l := parts.toList) (fun x hx' => hx x (by simpa [ho, Op.operands] using hx'))
    split at hq
    · rename_i e he
      split at hq
      · rename_i sz z hsz hz
        split at hq
        · rename_i hc
          split at hq
          · rename_i cs hf
            cases hq
            exact sim_buildSlice st ho he hsz hz hc.1 hc.2.1 hc.2.2 hk hp hf (hle.new (i := 0) rfl) (hm _ (by omega) (by simp))
          · cases hq
        · cases hq
      · cases hq
    · cases hq
  · rename_i t x ho
    simp [ho, Op.operands] at hx
    obtain ⟨u, hu, hr⟩ := run_loadAt st hx (loadP_le hH (one hq))
    exact .read st (by simp [execOp, ho, hu]) hr
  · rename_i x ho
    simp [ho, Op.operands] at hx
    split at hq
    · rename_i r off hp
      cases one hq
      rw [hp] at hx
      generalize hu : a.eval x = u at hx
      cases hx with
      | ptr h => exact .read st (by simp [execOp, ho, hu]) (.ptr h)
    · rename_i e cs hp
      cases one hq
      rw [hp] at hx
      refine .read st (u := a.eval x) ?_ hx
      generalize hu : a.eval x = u at hx
      cases hx with
      | lptr => simp [execOp, ho, hu]
    · cases hq
  · rename_i op t x y yt ho
    simp [ho, Op.operands] at hx
    obtain ⟨u, hu, hr⟩ := run_binP hx.1 hx.2 (one hq)
    refine .read st ?_ hr
    simp only [execOp, ho]
    rw [Sem.run_bind, hu]
    simp
  · rename_i op t x ho
    simp [ho, Op.operands] at hx
    obtain ⟨u, hu, hr⟩ := run_unP (C := C) (w := w) hx (one hq)
    refine .read st ?_ hr
    simp only [execOp, ho, Sem.run_bind]
    first | rw [hu] | (simp; rw [hu])
    simp
  · rename_i s d x ho
    simp [ho, Op.operands] at hx
    obtain ⟨u, hu, hr⟩ := run_convP st hx (convP_le hH (one hq))
    exact .read st (by simp [execOp, ho, hu]) hr
  · rename_i t x ho
    simp [ho, Op.operands] at hx
    split at hq
    · rename_i n e ha
      split at hq
      · rename_i e' m cs xx hp
        split at hq
        · rename_i hc
          cases one hq
          rw [hp] at hx
          generalize hu : a.eval x = u at hx
          cases hx with
          | lst0 => omega
          | @lst _ _ _ _ _ ad c us hn hcc hxx hb hs hl hcell h1 hr =>
            refine .read st (u := .pointer (some ad)) ?_ (.lptr us hb hs hl hcell h1 hr)
            have hng : ¬ (m < n) := by omega
            simp [execOp, ho, hu, Instr.arrayAt, run_underlying (arr_under ha), hng]
        · cases hq
      · cases hq
    · cases hq
  · rename_i f first caps ho
    split at hq
    · rename_i f
      cases one hq
      have h1 : RelL w (Bn B Bs μ Hb w) μ (first.toList.map (opnd C g)) (first.map a.eval).toList := relA fun x hx' => hx x (by simp [ho, Op.operands]; exact .inl (by simpa using hx'))
      have h2 : RelL w (Bn B Bs μ Hb w) μ (caps.toList.map (opnd C g)) (caps.map a.eval).toList := relA fun x hx' => hx x (by simp [ho, Op.operands]; exact .inr (by simpa using hx'))
      refine .read st (u := .func (.func f) (first.map a.eval) (caps.map a.eval)) (by simp [execOp, ho, Instr.makeFunc]) ?_
      exact .fn (by simp) (by simp) (fun i p u hp hu => h1.2 i p u hp (by simpa using hu)) (fun i p u hp hu => h2.2 i p u hp (by simpa using hu))
    · cases hq
  · rename_i t ho
    split at hq
    · cases hq
      exact sim_makeMap st ho (by simp [Instr.makeMap]) (hle.new (i := 0) rfl) (hm _ (by omega) (by simp))
    · cases hq
  · rename_i t x ho
    simp [ho, Op.operands] at hx
    split at hq
    · rename_i k e n hu hn
      cases hq
      obtain ⟨kk, hk⟩ := pint_rel hx hn
      exact sim_makeMap st ho (by simp [Instr.makeMap, run_underlying hu, hk, asInt, asIntOf]) (hle.new (i := 0) rfl) (hm _ (by omega) (by simp))
    · cases hq
  · rename_i t l c ho
    simp [ho, Op.operands] at hx
    split at hq
    · rename_i e he
      split at hq
      · rename_i sz b z n m hsz hb hz hl hc
        split at hq
        · rename_i hcc
          obtain ⟨rfl, h1, h2, h3, h4, h5⟩ := hcc
          cases hq
          rw [hl, hc] at hx
          exact sim_makeSlice st ho he hsz hb hz hx.1.sInv hx.2.sInv h1 h2 h3 h4 h5 (hle.new (i := 0) rfl) (hm _ (by omega) (by simp))
        · cases hq
      · cases hq
    · cases hq
  · rename_i t x lo hi mx ho
    have e : o.op.operands.toList = x :: (lo.toList ++ hi.toList ++ mx.toList) := by simp [ho, Op.operands]
    rw [e] at hx
    obtain ⟨u, hu, hr⟩ := run_sliceAt st (hx x (by simp)) (optRel_map (x := lo) fun y hy => hx y (by simp [hy])) (optRel_map (x := hi) fun y hy => hx y (by simp [hy])) (optRel_map (x := mx) fun y hy => hx y (by simp [hy])) (sliceP_le hH (one hq))
    exact .read st (by simp [execOp, ho, hu]) hr
  · rename_i s x f ho
    simp [ho, Op.operands] at hx
    obtain ⟨u, hu, hr⟩ := run_fieldAt hx (one hq)
    exact .read st (by simp [execOp, ho, hu]) hr
  · rename_i s x f ho
    simp [ho, Op.operands] at hx
    obtain ⟨u, hu, hr⟩ := run_fieldV hx (one hq)
    exact .read st (by simp [execOp, ho, hu]) hr
  · rename_i t x i ho
    simp [ho, Op.operands] at hx
    obtain ⟨u, hu, hr⟩ := run_indexAt st hx.1 hx.2 (indexAddrP_le hH (one hq))
    exact .read st (by simp [execOp, ho, hu]) hr
  · rename_i t x i ho
    simp [ho, Op.operands] at hx
    obtain ⟨u, hu, hr⟩ := run_indexV hx.1 hx.2 (one hq)
    exact .read st (by simp [execOp, ho, hu]) hr
  · rename_i x i ho
    simp [ho, Op.operands] at hx
    split at hq
    · rename_i vs hp
      rw [hp] at hx
      generalize hu : a.eval x = u at hx
      cases hx with
      | @tup _ _ us hl hr =>
        have hi := one hq
        have hlt : i < us.size := by rw [hl]; exact (List.getElem?_eq_some_iff.1 hi).1
        refine .read st (u := us[i]) ?_ (hr i v _ hi (Array.getElem?_eq_getElem hlt))
        simp [execOp, ho, hu, Instr.extract, Array.getElem?_eq_getElem hlt]
    · cases hq
  · rename_i c ho
    have hargs : RelL w (Bn B Bs μ Hb w) μ (c.args.toList.map (opnd C g)) (c.args.map a.eval).toList := relA fun x hx' => hx x (by simp [ho, Op.operands, Call.operands]; exact .inr (by simpa using hx'))
    split at hq
    · rename_i hcal
      split at hq
      · rename_i t x ht hxx
        obtain ⟨u, hu, hr⟩ := hargs.get (i := 0) (p := opnd C g x) (by simp [hxx])
        simp only [Array.getElem?_toList] at hu
        split at hq
        · rename_i he
          obtain ⟨e, he⟩ := Option.isSome_iff_exists.1 he
          split at hq
          · rename_i hp
            cases one hq
            rw [hp] at hr
            rw [hr.sInv] at hu
            exact .read st (by simp [execOp, ho, resolve, hcal, invoke, builtin, Builtin.len_, ht, hu, run_underlying (elem_under he)]) goInt_rel
          · rename_i e' n cs xx hp
            cases one hq
            rw [hp] at hr
            cases hr with
            | lst0 => exact .read st (by simp [execOp, ho, resolve, hcal, invoke, builtin, Builtin.len_, ht, hu, run_underlying (elem_under he)]) goInt_rel
            | lst => exact .read st (by simp [execOp, ho, resolve, hcal, invoke, builtin, Builtin.len_, ht, hu, run_underlying (elem_under he)]) goInt_rel
          · rename_i r off n hp
            cases one hq
            rw [hp] at hr
            cases hr with
            | row => exact .read st (by simp [execOp, ho, resolve, hcal, invoke, builtin, Builtin.len_, ht, hu, run_underlying (elem_under he)]) goInt_rel
            | row0 => exact .read st (by simp [execOp, ho, resolve, hcal, invoke, builtin, Builtin.len_, ht, hu, run_underlying (elem_under he)]) goInt_rel
          · cases hq
        · split at hq
          · rename_i n e ha
            cases one hq
            exact .read st (by simp [execOp, ho, resolve, hcal, invoke, builtin, Builtin.len_, ht, hu, run_underlying (arr_under ha)]) goInt_rel
          · cases hq
      · cases hq
    · rename_i hcal
      split at hq
      · rename_i t x ht hxx
        obtain ⟨u, hu, hr⟩ := hargs.get (i := 0) (p := opnd C g x) (by simp [hxx])
        simp only [Array.getElem?_toList] at hu
        split at hq
        · rename_i he
          obtain ⟨e, he⟩ := Option.isSome_iff_exists.1 he
          split at hq
          · rename_i hp
            cases one hq
            rw [hp] at hr
            rw [hr.sInv] at hu
            exact .read st (by simp [execOp, ho, resolve, hcal, invoke, builtin, Builtin.cap_, ht, hu, run_underlying (elem_under he)]) goInt_rel
          · cases hq
        · cases hq
      · cases hq
    · rename_i hcal
      split at hq
      · rename_i k x k' y hp
        cases one hq
        rw [hp] at hargs
        obtain ⟨u1, us1, e1, r1, h1⟩ := hargs.cons_inv
        obtain ⟨u2, us2, rfl, r2, h2⟩ := h1.cons_inv
        have : us2 = [] := List.eq_nil_of_length_eq_zero (by have := h2.1; simpa using this)
        subst this
        rw [r1.sInv, r2.sInv] at e1
        simp only [Array.toList_map] at e1
        exact .read st (by simp [execOp, ho, resolve, hcal, invoke, builtin, Builtin.max_, e1, Builtin.max2]) (.s rfl)
      · cases hq
    · rename_i hcal
      split at hq
      · rename_i k x k' y hp
        cases one hq
        rw [hp] at hargs
        obtain ⟨u1, us1, e1, r1, h1⟩ := hargs.cons_inv
        obtain ⟨u2, us2, rfl, r2, h2⟩ := h1.cons_inv
        have : us2 = [] := List.eq_nil_of_length_eq_zero (by have := h2.1; simpa using this)
        subst this
        rw [r1.sInv, r2.sInv] at e1
        simp only [Array.toList_map] at e1
        exact .read st (by simp [execOp, ho, resolve, hcal, invoke, builtin, Builtin.min_, e1, Builtin.min2]) (.s rfl)
      · cases hq
    · cases hq
  · cases hq
end
end Go.PI

end
section
/- The pure interpreter and its simulation, part 11. -/
set_option linter.unusedSimpArgs false
set_option linter.unusedVariables false
namespace Go.PI
section
variable {C : Cfg} {w w' : World} {B : Nat → Nat → Prop} {Bs : Nat} {μ : Mu} {H Hb : List HO} {a : Act}

theorem Pres.setRow (w : World) (g : Nat) (cs : Array Value) : Pres (fun b => b = g) w (w.setRow g cs) :=
  ⟨rfl, rfl, rfl, by simp [World.setRow], fun b hb hn => by
    simp only [World.setRow, Array.getElem?_modify]
    rw [if_neg (fun h => hn h.symm)], fun b L hb => ⟨L, by
    simp only [World.setRow, Array.getElem?_modify]
    split <;> simp [hb]⟩⟩
theorem RelL.len {ps : List PV} {us : List Value} {B' : Nat → Nat → Prop} (h : RelL w B' μ ps us) : us.length = ps.length := h.1

theorem CellsAt.size {B' : Nat → Nat → Prop} {cs : List PV} {cur : Array Value} {o : Nat} (h : CellsAt w B' μ cs cur o) (h0 : 0 < cs.length) : o + cs.length ≤ cur.size := by
  obtain ⟨u, hu, _⟩ := h (cs.length - 1) _ (List.getElem?_eq_getElem (by omega))
  have := (Array.getElem?_eq_some_iff.1 hu).1
  omega
theorem splice_get (cs ps : List PV) (off i : Nat) (ho : off ≤ cs.length) : (splice cs off ps)[i]? = if i < off then cs[i]? else if i < off + ps.length then ps[i - off]? else cs[i]? := by
  unfold splice
  rcases Nat.lt_or_ge i off with h | h
  · rw [List.getElem?_append_left (by simp; omega), if_pos h, List.getElem?_take, if_pos h]
  · rw [List.getElem?_append_right (by simp; omega), if_neg (by omega)]
    simp only [List.length_take, Nat.min_eq_left ho]
    rcases Nat.lt_or_ge i (off + ps.length) with h2 | h2
    · rw [if_pos h2, List.getElem?_append_left (by omega)]
    · rw [if_neg (by omega), List.getElem?_append_right (by omega), List.getElem?_drop]
      congr 1
      omega
theorem vsplice_get (us vs : List Value) (off i : Nat) (ho : off ≤ us.length) : (us.take off ++ vs ++ us.drop (off + vs.length))[i]? = if i < off then us[i]? else if i < off + vs.length then vs[i - off]? else us[i]? := by
  rw [List.append_assoc]
  rcases Nat.lt_or_ge i off with h | h
  · rw [List.getElem?_append_left (by simp; omega), if_pos h, List.getElem?_take, if_pos h]
  · rw [List.getElem?_append_right (by simp; omega), if_neg (by omega)]
    simp only [List.length_take, Nat.min_eq_left ho]
    rcases Nat.lt_or_ge i (off + vs.length) with h2 | h2
    · rw [if_pos h2, List.getElem?_append_left (by omega)]
    · rw [if_neg (by omega), List.getElem?_append_right (by omega), List.getElem?_drop]
      congr 1
      omega
theorem cellsAt_splice {B1 B2 : Nat → Nat → Prop} {cs ps : List PV} {us : List Value} {cur : Array Value} {o off : Nat} (h : CellsAt w B1 μ cs cur o) (hp : RelL w B1 μ ps us) (h1 : ∀ p ∈ ps, isCell p = true) (ho : off ≤ cs.length) (hs : o + off ≤ cur.size)
    (hm : ∀ p v, Rel w B1 μ p v → Rel w' B2 μ p v) : CellsAt w' B2 μ (splice cs off ps) (cur.toList.take (o + off) ++ us ++ cur.toList.drop (o + off + us.length)).toArray o := by
  intro i p hi
  rw [splice_get cs ps off i ho] at hi
  simp only [List.getElem?_toArray]
  rw [vsplice_get cur.toList us (o + off) (o + i) (by simpa using hs)]
  rw [hp.len]
  split at hi
  · rename_i hlt
    rw [if_pos (by omega)]
    obtain ⟨u, hu, hc, hr⟩ := h i p hi
    exact ⟨u, by simpa using hu, hc, hm _ _ hr⟩
  · rw [if_neg (by omega)]
    split at hi
    · rename_i h2 h3
      rw [if_pos (by omega)]
      obtain ⟨u, hu, hr⟩ := hp.get hi
      exact ⟨u, by rw [show o + i - (o + off) = i - off from by omega]; exact hu, h1 p (mem_of_get hi), hm _ _ hr⟩
    · rw [if_neg (by omega)]
      obtain ⟨u, hu, hc, hr⟩ := h i p hi
      exact ⟨u, by simpa using hu, hc, hm _ _ hr⟩
theorem splice_length (cs ps : List PV) (off : Nat) (ho : off ≤ cs.length) : (splice cs off ps).length = max cs.length (off + ps.length) := by
  unfold splice
  simp
  omega

/-- Cells of an object are written. -/
theorem sim_cells (st : St C B Bs μ H w) {r : Nat} {l : Loc} (hr : μ r = some l) {e : Nat} {cs ps : List PV} {us : List Value} {row : Option Nat} (ho : H[r]? = some (.cells e cs row false)) {off : Nat}
    (hrel : RelL w (Bn B Bs μ H w) μ ps us) (h1 : ∀ p ∈ ps, isCell p = true) (hu1 : ∀ u ∈ us, u.oneCell' = true) (h0 : 0 < ps.length) (hoff : off ≤ cs.length)
    (hb : off + ps.length ≤ cs.length ∨ ∃ sz, row = some sz ∧ l.sz = sz ∧ off + ps.length ≤ l.cap * sz) :
    ∃ w', (storeCells ⟨l.g, l.o + off, none⟩ us).run C.P w = .ok () w' ∧ St C B Bs μ (H.set r (.cells e (splice cs off ps) row false)) w' ∧ Ext μ H w μ (H.set r (.cells e (splice cs off ps) row false)) w' := by
  obtain ⟨o, ho', hobj⟩ := st.obj r l hr
  rw [ho] at ho'
  cases ho'
  cases hobj with
  | @box _ _ _ _ cur hk hh hc =>
    have hb : off + ps.length ≤ cs.length := by
      rcases hb with hb | ⟨sz, h, _⟩
      · exact hb
      · cases h
    have hsz := hc.size (by omega)
    have hrun := run_storeCells_at C.P l.g (l.o + off) e us 0 cur w hh (by rw [hrel.len]; omega) hu1
    obtain ⟨st', he⟩ := st.write hr ho rfl hk (.setRow w l.g _) (o' := .cells e (splice cs off ps) none false) rfl (fun B' hm => .box hk (setRow_heap w l.g cur _ e _ hh) (cellsAt_splice hc hrel h1 hoff (by omega) hm))
    exact ⟨_, by simpa using hrun, st', he⟩
  | @row _ _ sz _ _ cur hk hs hz h0' hh hl hbb hc =>
    have hb' : off + ps.length ≤ l.cap * sz := by
      rcases hb with hb | ⟨sz', h, _, h2⟩
      · omega
      · cases h; exact h2
    have hrun := run_storeCells_at C.P l.g (l.o + off) e us 0 cur w hh (by rw [hrel.len]; omega) hu1
    obtain ⟨st', he⟩ := st.write hr ho rfl hk (.setRow w l.g _) (o' := .cells e (splice cs off ps) (some sz) false) rfl (fun B' hm => .row hk hs hz h0' (setRow_heap w l.g cur _ e _ hh) (by rw [splice_length _ _ _ hoff]; omega) (by simp [hrel.len]; omega) (cellsAt_splice hc hrel h1 hoff (by omega) hm))
    exact ⟨_, by simpa using hrun, st', he⟩
  | row0 hk hs hcap =>
    exfalso
    rcases hb with hb | ⟨sz', h, hs', h2⟩
    · simp only [List.length_nil] at hb; omega
    · rw [hcap] at h2; simp only [Nat.zero_mul] at h2; omega

/-- What an operation that may write comes to in the model. -/
def MSim (C : Cfg) (B : Nat → Nat → Prop) (Bs : Nat) (a : Act) (o : Oper) (H : List HO) (μ : Mu) (w : World) (v : PV) (H' : List HO) : Prop :=
  ∃ n u w' μ', (execOp a.eval o).run C.P w = .ok n w' ∧ (n = .value u ∨ n = .skip ∧ u = undef) ∧ St C B Bs μ' H' w' ∧ Ext μ H w μ' H' w' ∧ Rel w' (Bn B Bs μ' H' w') μ' v u

theorem sim_store (st : St C B Bs μ H w) {o : Oper} {t : Nat} {x y : Operand} {p q : PV} {H' : List HO} (ho : o.op = .store t x y) (hx : Rel w (Bn B Bs μ H w) μ p (a.eval x)) (hy : Rel w (Bn B Bs μ H w) μ q (a.eval y))
    (h : storeP C H t p q = some H') : MSim C B Bs a o H μ w undefP H' := by
  unfold storeP at h
  split at h
  · rename_i r off
    split at h
    · rename_i e cs row hr
      split at h
      · rename_i hc
        obtain ⟨hsz, h0, h1, hle⟩ := hc
        cases h
        generalize hu : a.eval x = u at hx
        cases hx with
        | @ptr _ _ _ l hmu =>
          obtain ⟨hrl, hone⟩ := rel_cells hy h1
          obtain ⟨w', hrun, st', he⟩ := sim_cells st hmu hr hrl (fun p hp => List.all_eq_true.1 h1 p hp) hone h0 (by omega) (.inl hle)
          refine ⟨.skip, undef, w', μ, ?_, .inr ⟨rfl, rfl⟩, st', he, rel_undef⟩
          have hlen : (a.eval y).cells.size = (pcells q).length := by have := hrl.len; simpa using this
          simp [execOp, ho, hu, Instr.storeAt, Instr.sureAddr, storeVar, run_sizeOf hsz, hlen, hrun]
      · cases h
    · cases h
  · cases h
theorem sim_assign (st : St C B Bs μ H w) {o : Oper} {x : Operand} {p : PV} (ho : o.op = .assign x) (hx : Rel w (Bn B Bs μ H w) μ p (a.eval x)) : MSim C B Bs a o H μ w p H :=
  ⟨.value (a.eval x), a.eval x, w, μ, by simp [execOp, ho], .inl rfl, st, .refl _ _ _, hx⟩
end
end Go.PI

end
