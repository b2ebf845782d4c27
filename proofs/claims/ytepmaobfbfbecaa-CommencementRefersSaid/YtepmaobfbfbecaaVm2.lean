/-
  The value machine, 2: operations as data ('VOp'), how they are read off the program's operations ('cOp'), and what they give on abstract values.
-/
import Derived.Test.YtepmaobfbfbecaaVm1
import Derived.Laws.Entries
import Derived.Laws.Append
set_option linter.all false
namespace Go.VM
open Go

inductive VA where
  | t (n : Nat)
  | c (p : PV)
  deriving Inhabited
def VA.ev (e : Env) : VA → PV
  | .t n => e.get n
  | .c p => p

def cst : Value → Option PV
  | .bool b => some (.bool b)
  | .int k n => some (.int k n)
  | .string s => some (.str s.data.toList)
  | .slice none 0 0 => some .nilsl
  | .pointer none => some .nilp
  | .map none => some .nilmp
  | .nilFunc => some .nilfn
  | .nilIface => some .nilif
  | .func (.func f) ⟨[]⟩ ⟨[]⟩ => some (.fn (.func f) [] [])
  | _ => none
def csts : List Value → Option (List PV)
  | [] => some []
  | v :: r => match cst v, csts r with
    | some p, some q => some (p :: q)
    | _, _ => none

def cA : Operand → Option VA
  | .tmp t => some (.t t)
  | .const v => (cst v).map .c
  | .func f => some (.c (.fn (.func f) [] []))
  | .global _ => none
def cAs : List Operand → Option (List VA)
  | [] => some []
  | v :: r => match cA v, cAs r with
    | some p, some q => some (p :: q)
    | _, _ => none
def cAo : Option Operand → Option (Option VA)
  | none => some none
  | some x => (cA x).map some

/-- Kinds of cells that == compares. -/
inductive EK where
  | b | i | s
  deriving DecidableEq, Inhabited
/-- Kinds of keys of a map. -/
inductive KK where
  | one (k : EK)
  | st (ks : List EK)
  deriving DecidableEq, Inhabited
/-- Further operations that only look. -/
inductive PX where
  | nck
  | unx
  | isnil (neg : Bool)
  deriving DecidableEq, Inhabited
/-- Further operations that make or write memory. -/
inductive FX where
  | slice0 (z : Nat)
  | mk0 (z : Nat)
  | clear (z : Nat) (zr : List PV)
  deriving Inhabited
inductive VOp where
  | mv (a : VA)
  | pick (c a b : VA)
  | alloc (zero : List PV)
  | box (n : Nat) (a : VA)
  | build (zero : List PV) (parts : List (Nat × Nat × VA))
  | bslice (z n : Nat) (zero : List PV) (parts : List (Nat × VA))
  | load (agg : Bool) (sz : Nat) (a : VA)
  | store (sz : Nat) (a v : VA)
  | bin (op : BinOp) (a b : VA)
  | binb (op : BinOp) (a b : VA)
  | strid (a : VA)
  | eqs (neg : Bool) (ks : List EK) (a b : VA)
  | isnil (neg : Bool) (a : VA)
  | un (op : UnOp) (a : VA)
  | conv (k : IntKind) (a : VA)
  | b2s (a : VA)
  | s2b (a : VA)
  | mkfn (f : Fn) (first cap : List VA)
  | slice (st : Bool) (z : Nat) (a : VA) (lo hi : Option VA)
  | faddr (off : Nat) (a : VA)
  | fld (agg : Bool) (off sz : Nat) (a : VA)
  | iaddr (z : Nat) (a i : VA)
  | idx (a i : VA)
  | ext (a : VA) (i : Nat)
  | len (st : Bool) (a : VA)
  | app (z bytes : Nat) (zero : List PV) (str : Bool) (a b : VA)
  | mm (mx : Bool) (args : List VA)
  | mkmap
  | lookup (kk : KK) (zero : PV) (ok : Bool) (m k : VA)
  | mapset (kk : KK) (m k v : VA)
  | mlen (m : VA)
  | call (f : FuncId) (args : List VA)
  | callv (f : VA) (args : List VA)
  | px (k : PX) (l : List VA)
  | fx (k : FX) (l : List VA)
  | nd (neg : Bool) (a : VA)
  | other (o : Oper)
  deriving Inhabited

/-! ### reading the program's operations -/
def szOf (P : Program) (t : TypeId) : Option Nat := (P.info? t).map (·.size)
def aggOf (P : Program) (t : TypeId) : Option Bool :=
  match P.underlying t with
  | some (.struct _) | some (.array _ _) => some true
  | some _ => some false
  | none => none
def zeroOf (P : Program) (t : TypeId) : Option (List PV) :=
  match P.info? t with
  | some i => match i.zero with
    | some v => csts v.cells.toList
    | none => none
  | none => none
def fieldOf (P : Program) (t : TypeId) (f : Nat) : Option Field :=
  match P.underlying t with
  | some (.struct fs) => fs[f]?
  | _ => none
/-- Types whose == compares cell by cell: no floats, no pointers, nothing that may be stood in for. -/
def flatFs (P : Program) (F : TypeId → Option (List EK)) : List Field → Nat → Option (List EK)
  | [], _ => some []
  | f :: r, o => if f.name != "_" && f.offset == o then (match F f.type with
    | some ks => (match flatFs P F r (o + ks.length) with | some q => some (ks ++ q) | none => none)
    | none => none) else none
def flatK (P : Program) : Nat → TypeId → Option (List EK)
  | 0, _ => none
  | d + 1, t => match P.underlying t with
    | some .bool => if szOf P t == some 1 then some [.b] else none
    | some (.int _) => if szOf P t == some 1 then some [.i] else none
    | some .string => if szOf P t == some 1 then some [.s] else none
    | some (.struct fs) => (match flatFs P (flatK P d) fs.toList 0 with
      | some ks => if !P.stoodInHeld t && szOf P t == some ks.length then some ks else none
      | none => none)
    | _ => none
def keyK (P : Program) (t : TypeId) : Option KK :=
  match P.underlying t with
  | some .bool => some (.one .b)
  | some (.int _) => some (.one .i)
  | some .string => some (.one .s)
  | some (.struct _) => (flatK P 6 t).map .st
  | _ => none
def zeroP (P : Program) (t : TypeId) : Option PV :=
  match P.info? t with
  | some i => match i.zero with
    | some (.agg cs) => (csts cs.toList).map .agg
    | some v => cst v
    | none => none
  | none => none
def fnOk (P : Program) (f : FuncId) : Bool :=
  match P.funcs[f]? with
  | some fn => fn.name != "runtime.NumGoroutine" && fn.body.isSome
  | none => false
def cParts (P : Program) (t : TypeId) : List (Nat × Operand) → Option (List (Nat × Nat × VA))
  | [] => some []
  | (i, x) :: r =>
    match (match P.underlying t with
      | some (.struct fs) => (match fs[i]? with | some f => (szOf P f.type).map fun s => (f.offset, s) | none => none)
      | some (.array _ e) => (szOf P e).map fun s => (i * s, s)
      | _ => none), cA x, cParts P t r with
    | some (o, s), some a, some q => some ((o, s, a) :: q)
    | _, _, _ => none
def fieldsOk (P : Program) (t : TypeId) : Bool :=
  match P.underlying t with
  | some (.struct fs) => fs.toList.all fun f => (szOf P f.type).isSome
  | some (.array _ e) => (szOf P e).isSome
  | _ => false
def cElems : List (Nat × Operand) → Option (List (Nat × VA))
  | [] => some []
  | (i, x) :: r => match cA x, cElems r with
    | some a, some q => some ((i, a) :: q)
    | _, _ => none

def cCall (P : Program) (c : Call) (o : Oper) : Option VOp :=
  match c.callee with
  | .builtin .len => match c.args.toList, c.argTypes.toList with
    | [x], [t] => match cA x, P.underlying t with
      | some a, some .string => some (.len true a)
      | some a, some (.slice _) => some (.len false a)
      | some a, some (.map _ _) => some (.mlen a)
      | _, _ => none
    | _, _ => none
  | .builtin .append => match c.args.toList, c.argTypes.toList with
    | [x, y], [t, u] => match cA x, cA y, P.underlying t, P.underlying u with
      | some a, some b, some (.slice e), some (.slice e') => match szOf P e, zeroOf P e with
        | some z, some zr => if e == e' && zr.length == z then (P.info? e).map fun i => .app z i.bytes zr false a b else none
        | _, _ => none
      | some a, some b, some (.slice e), some .string => match szOf P e, zeroOf P e with
        | some z, some zr => if z == 1 && zr.length == z then (P.info? e).map fun i => .app z i.bytes zr true a b else none
        | _, _ => none
      | _, _, _, _ => none
    | _, _ => none
  | .builtin .max => (cAs c.args.toList).map (.mm true)
  | .builtin .min => (cAs c.args.toList).map (.mm false)
  | .value (.func f) => if fnOk P f then (cAs c.args.toList).map (.call f) else none
  | .value (.const (.func (.func f) ⟨[]⟩ ⟨[]⟩)) => if fnOk P f then (cAs c.args.toList).map (.call f) else none
  | .value x => match cA x, cAs c.args.toList with
    | some a, some l => some (.callv a l)
    | _, _ => none
  | _ => some (.other o)

def zeroC : Operand → Bool
  | .const (.int .i64 0) => true
  | _ => false
/-- Kinds of types whose values are held against nil. -/
def nilT (P : Program) (t : TypeId) : Bool :=
  match P.underlying t with
  | some (.slice _) => true
  | _ => false
def nilC : Operand → Bool
  | .const (.slice none 0 0) => true
  | _ => false
def cCallX (P : Program) (c : Call) : Option VOp :=
  match c.callee with
  | .builtin .clear => match c.args.toList, c.argTypes.toList with
    | [x], [t] => match P.underlying t, cA x with
      | some (.slice e), some a => match szOf P e, zeroOf P e with
        | some z, some zr => if zr.length == z then some (.fx (.clear z zr) [a]) else none
        | _, _ => none
      | _, _ => none
    | _, _ => none
  | _ => none
/-- The further operations. -/
def cX (P : Program) (o : Oper) : Option VOp :=
  match o.op with
  | .nilCheck x => (cA x).map fun a => .px .nck [a]
  | .unOp .xor _ x => (cA x).map fun a => .px .unx [a]
  | .slice t x none (some hi) (some mx) => if zeroC hi && zeroC mx then (match P.underlying t, cA x with
    | some (.slice e), some a => (szOf P e).map fun z => .fx (.slice0 z) [a]
    | _, _ => none) else none
  | .slice t x (some lo) (some hi) (some mx) => if zeroC lo && zeroC hi && zeroC mx then (match P.underlying t, cA x with
    | some (.slice e), some a => (szOf P e).map fun z => .fx (.slice0 z) [a]
    | _, _ => none) else none
  | .binOp .eql t x y _ => if nilC y && nilT P t then (cA x).map fun a => .nd false a else none
  | .binOp .neq t x y _ => if nilC y && nilT P t then (cA x).map fun a => .nd true a else none
  | .buildSlice t n parts => if n == 0 && parts.isEmpty then (match P.underlying t with
    | some (.slice e) => match szOf P e, zeroOf P e with
      | some z, some zr => if zr.length == z && z != 0 then some (.fx (.mk0 z) []) else none
      | _, _ => none
    | _ => none) else none
  | .call c => cCallX P c
  | .insert t m k v => match P.underlying t, cA m, cA k, cA v with
    | some (.map kt _), some a, some b, some c => (keyK P kt).map fun kk => .mapset kk a b c
    | _, _, _, _ => none
  | _ => none
def cOp0 (P : Program) (o : Oper) : Option VOp :=
  match o.op with
  | .move x | .assign x => (cA x).map .mv
  | .pick c a b => match cA c, cA a, cA b with
    | some c, some a, some b => some (.pick c a b)
    | _, _, _ => none
  | .alloc t => (zeroOf P t).map .alloc
  | .box t x => match cA x, szOf P t with
    | some a, some n => some (.box n a)
    | _, _ => none
  | .build t parts => match zeroOf P t, cParts P t parts.toList with
    | some zr, some ps => if fieldsOk P t then some (.build zr ps) else none
    | _, _ => none
  | .buildSlice t n parts => match P.underlying t with
    | some (.slice e) => match szOf P e, zeroOf P e, cElems parts.toList with
      | some z, some zr, some ps => if n * z ≤ 2 ^ 20 && zr.length == z && z != 0 then some (.bslice z n zr ps) else none
      | _, _, _ => none
    | _ => none
  | .load t a => match cA a, aggOf P t, szOf P t with
    | some a, some g, some s => some (.load g s a)
    | _, _, _ => none
  | .store t a v => match cA a, cA v, szOf P t with
    | some a, some v, some s => some (.store s a v)
    | _, _, _ => none
  | .binOp op t x y _ => match cA x, cA y, P.underlying t with
    | some a, some b, some .bool => some (.binb op a b)
    | some a, some b, some (.int _) => some (.bin op a b)
    | some a, some b, some .string => some (.bin op a b)
    | some a, some b, some (.struct _) => match op with
      | .eql => (match flatK P 6 t with | some ks => if !P.eqGuardType P.depth t then some (.eqs false ks a b) else none | none => none)
      | .neq => (match flatK P 6 t with | some ks => if !P.eqGuardType P.depth t then some (.eqs true ks a b) else none | none => none)
      | _ => none
    | _, _, _ => some (.other o)
  | .unOp op _ x => (cA x).map (.un op)
  | .convert s d x => match cA x, P.underlying s, P.underlying d with
    | some a, some (.int _), some (.int k) => some (.conv k a)
    | some a, some .string, some .string => some (.strid a)
    | _, _, _ => some (.other o)
  | .makeFunc f first cap => match f, cAs first.toList, cAs cap.toList with
    | .func _, some a, some b => some (.mkfn f a b)
    | _, _, _ => none
  | .slice t x lo hi none => match P.underlying t, cA x, cAo lo, cAo hi with
    | some .string, some a, some l, some h => some (.slice true 0 a l h)
    | some (.slice e), some a, some l, some h => (szOf P e).map fun z => .slice false z a l h
    | _, _, _, _ => none
  | .fieldAddr t x f => match fieldOf P t f, cA x with
    | some fd, some a => match szOf P fd.type with
      | some s => if s == 0 then none else some (.faddr fd.offset a)
      | none => none
    | _, _ => none
  | .field t x f => match fieldOf P t f, cA x with
    | some fd, some a => match szOf P fd.type, aggOf P fd.type with
      | some s, some g => some (.fld g fd.offset s a)
      | _, _ => none
    | _, _ => none
  | .indexAddr t x i => match P.underlying t, cA x, cA i with
    | some (.slice e), some a, some i => (szOf P e).map fun z => .iaddr z a i
    | _, _, _ => none
  | .index t x i => match P.underlying t, cA x, cA i with
    | some .string, some a, some i => some (.idx a i)
    | _, _, _ => none
  | .extract x i => (cA x).map fun a => .ext a i
  | .makeMap _ none => some .mkmap
  | .lookup t m k ok => match P.underlying t, cA m, cA k with
    | some (.map kt et), some a, some b => match keyK P kt, zeroP P et with
      | some kk, some zr => some (.lookup kk zr ok a b)
      | _, _ => some (.other o)
    | _, _, _ => some (.other o)
  | .mapUpdate t m k v => match P.underlying t, cA m, cA k, cA v with
    | some (.map kt _), some a, some b, some c => match keyK P kt with
      | some kk => some (.mapset kk a b c)
      | none => some (.other o)
    | _, _, _, _ => some (.other o)
  | .call c => cCall P c o
  | _ => some (.other o)

def cOp (P : Program) (o : Oper) : Option VOp :=
  match cX P o with
  | some v => some v
  | none => cOp0 P o

/-! ### what the operations give -/
def PV.cells : PV → List PV
  | .agg cs => cs
  | v => [v]
def PV.fits (n : Nat) : PV → Bool
  | .agg cs => cs.length == n
  | .any | .undef | .tup _ => false
  | _ => n == 1
def overlay (cs : List PV) (off : Nat) (new : List PV) : List PV := cs.take off ++ new ++ cs.drop (off + new.length)
def gd (c : Bool) (p : PV) : PV := if c then p else .undef
def pickV : PV → PV → PV → PV
  | .bool c, a, b => if c then a else b
  | _, _, _ => .any
def isBool : PV → Prop
  | .bool _ => True
  | _ => False
def aggV (agg : Bool) (cs : List PV) : PV := if agg then .agg cs else PV.nth cs 0
def intV (op : BinOp) (k : IntKind) (a b : Int) : PV :=
  match op with
  | .add => .int k (k.wrap (a + b))
  | .sub => .int k (k.wrap (a - b))
  | .mul => .int k (k.wrap (a * b))
  | .quo => .int k (k.wrap (a.tdiv b))
  | .rem => .int k (a.tmod b)
  | .and => .int k (k.wrap (BitVec.ofInt k.bits a &&& BitVec.ofInt k.bits b).toNat)
  | .or => .int k (k.wrap (BitVec.ofInt k.bits a ||| BitVec.ofInt k.bits b).toNat)
  | .xor => .int k (k.wrap (BitVec.ofInt k.bits a ^^^ BitVec.ofInt k.bits b).toNat)
  | .andNot => .int k (k.wrap (BitVec.ofInt k.bits a &&& ~~~BitVec.ofInt k.bits b).toNat)
  | .shl => .int k (k.wrap (a * 2 ^ (min b.toNat k.bits)))
  | .shr => .int k (a.fdiv (2 ^ (min b.toNat k.bits)))
  | .eql => .bool (a == b)
  | .neq => .bool (a != b)
  | .lss => .bool (decide (a < b))
  | .leq => .bool (decide (a ≤ b))
  | .gtr => .bool (decide (b < a))
  | .geq => .bool (decide (b ≤ a))
def strV (op : BinOp) (a b : List UInt8) : PV :=
  match op with
  | .add => .str (a ++ b)
  | .eql => .bool (a == b)
  | .neq => .bool (a != b)
  | .lss => .bool (Op.bytesLess a b)
  | .leq => .bool (Op.bytesLess a b || a == b)
  | .gtr => .bool (!(Op.bytesLess a b || a == b))
  | .geq => .bool (!Op.bytesLess a b)
  | _ => .any
def boolV (op : BinOp) (a b : Bool) : PV :=
  match op with
  | .eql => .bool (a == b)
  | .neq => .bool (a != b)
  | _ => .any
def binV (op : BinOp) : PV → PV → PV
  | .int k a, .int _ b => intV op k a b
  | .str a, .str b => strV op a b
  | _, _ => .any
def binbV (op : BinOp) : PV → PV → PV
  | .bool a, .bool b => boolV op a b
  | _, _ => .any
def binbOk (op : BinOp) : PV → PV → Prop
  | .bool _, .bool _ => (match op with
    | .eql | .neq => True
    | _ => False)
  | _, _ => False
def isStr : PV → Prop
  | .str _ => True
  | _ => False
def binOk (op : BinOp) : PV → PV → Prop
  | .int k a, .int k' b => (match op with
    | .shl | .shr => 0 ≤ b
    | .quo | .rem => k = k' ∧ b ≠ 0
    | _ => k = k')
  | .str a, .str b => (match op with
    | .add => a.length + b.length ≤ 9223372036854775807
    | .eql | .neq | .lss | .leq | .gtr | .geq => True
    | _ => False)
  | _, _ => False
def eqCell : PV → PV → Bool
  | .int _ a, .int _ b => a == b
  | .str a, .str b => a == b
  | .bool a, .bool b => a == b
  | _, _ => false
def eqCells : List PV → List PV → Bool
  | a :: r, b :: q => eqCell a b && eqCells r q
  | _, _ => true
def ekOk : EK → PV → PV → Prop
  | .i, .int k _, .int k' _ => k = k'
  | .s, .str _, .str _ => True
  | .b, .bool _, .bool _ => True
  | _, _, _ => False
def eqOk : List EK → List PV → List PV → Prop
  | k :: ks, x :: r, y :: q => ekOk k x y ∧ eqOk ks r q
  | [], [], [] => True
  | _, _, _ => False
def keyOk : KK → PV → PV → Prop
  | .one k, a, b => ekOk k a b
  | .st ks, a, b => isAggP' a ∧ isAggP' b ∧ eqOk ks a.cells b.cells
where isAggP' : PV → Prop
  | .agg _ => True
  | _ => False
def keyEq (a b : PV) : Bool := eqCells a.cells b.cells
def mapFind (k : PV) : List (PV × PV) → Option PV
  | [] => none
  | (x, v) :: r => if keyEq k x then some v else mapFind k r
def mapPut (k v : PV) : List (PV × PV) → List (PV × PV)
  | [] => [(k, v)]
  | (x, u) :: r => if keyEq k x then (k, v) :: r else (x, u) :: mapPut k v r
/-- The key stands for itself beside all keys of the map. -/
def keysOk (kk : KK) (k : PV) (es : List (PV × PV)) : Prop := keyOk kk k k ∧ ∀ p ∈ es, keyOk kk k p.1
def mapRows (h : Heap) : PV → List (PV × PV)
  | .mp id => (match h.get id with
    | some (.map es) => es
    | _ => [])
  | .rmp es => es
  | _ => []
def mapOk (h : Heap) : PV → Prop
  | .mp id => (match h.get id with
    | some (.map _) => True
    | _ => False)
  | .rmp _ => True
  | .nilmp => True
  | _ => False
def lookV (zero : PV) (ok : Bool) (r : Option PV) : PV :=
  match r with
  | some v => if ok then .tup [v, .bool true] else v
  | none => if ok then .tup [zero, .bool false] else zero
def unV (op : UnOp) : PV → PV
  | .int k n => (match op with
    | .neg => .int k (k.wrap (0 - n))
    | _ => .any)
  | .bool b => (match op with
    | .not => .bool (!b)
    | _ => .any)
  | _ => .any
def unOk (op : UnOp) : PV → Prop
  | .int _ _ => (match op with | .neg => True | _ => False)
  | .bool _ => (match op with | .not => True | _ => False)
  | _ => False
def convV (k : IntKind) : PV → PV
  | .int _ n => .int k (k.wrap n)
  | _ => .any
def isInt : PV → Prop
  | .int _ _ => True
  | _ => False
def numOf : PV → Int
  | .int _ n => n
  | _ => 0
def loV (o : Option PV) : Nat := match o with | some p => (numOf p).toNat | none => 0
def hiV (n : Nat) (o : Option PV) : Nat := match o with | some p => (numOf p).toNat | none => n
def lenV : PV → Nat
  | .str s => s.length
  | .sl _ es => es.length
  | .own _ _ n => n
  | _ => 0
def boundOk (o : Option PV) : Prop := match o with | some (.int _ n) => 0 ≤ n | some _ => False | none => True
def sliceV (a : PV) (lo hi : Option PV) : PV :=
  match a with
  | .str s => .str ((s.drop (loV lo)).take (hiV s.length hi - loV lo))
  | .sl z es => .sl z ((es.drop (loV lo)).take (hiV es.length hi - loV lo))
  | .own id off n => .own id (off + loV lo) (hiV n hi - loV lo)
  | .nilsl => .nilsl
  | _ => .any
def sliceOk (st : Bool) (z : Nat) (h : Heap) (a : PV) (lo hi : Option PV) : Prop :=
  boundOk lo ∧ boundOk hi ∧ loV lo ≤ hiV (lenV a) hi ∧ hiV (lenV a) hi ≤ lenV a ∧
  match a with
  | .str _ => st = true
  | .sl z' _ => st = false ∧ z' = z
  | .own id _ _ => st = false ∧ (match h.get id with | some (.arr _ z' _) => z' = z | _ => False)
  | .nilsl => st = false
  | _ => False
def faddrV (off : Nat) : PV → PV
  | .loc id i o => .loc id i (o + off)
  | .ro cs => .ro (cs.drop off)
  | _ => .any
def isAddr : PV → Prop
  | .loc _ _ _ | .ro _ => True
  | _ => False
def locCells (h : Heap) : PV → List PV
  | .loc id i o => (match h.get id with
    | some (.arr _ _ es) => (PV.row es i).drop o
    | _ => [])
  | .ro cs => cs
  | _ => []
def locOk (h : Heap) : PV → Prop
  | .loc id i _ => (match h.get id with
    | some (.arr _ _ es) => i < es.length
    | _ => False)
  | .ro _ => True
  | _ => False
def cellsOfAgg : PV → List PV
  | .agg cs => cs
  | _ => []
def isAggP : PV → Prop
  | .agg _ => True
  | _ => False
def iaddrV (a i : PV) : PV :=
  match a with
  | .sl _ es => .ro (PV.row es (numOf i).toNat)
  | .own id off _ => .loc id (off + (numOf i).toNat) 0
  | _ => .any
def iaddrOk (z : Nat) (h : Heap) (a i : PV) : Prop :=
  isInt i ∧ 0 ≤ numOf i ∧ numOf i < lenV a ∧
  match a with
  | .sl z' _ => z' = z
  | .own id _ _ => (match h.get id with | some (.arr _ z' _) => z' = z | _ => False)
  | _ => False
def idxV (a i : PV) : PV :=
  match a with
  | .str s => .int .u8 ((s.getD (numOf i).toNat 0).toNat : Int)
  | _ => .any
def idxOk (a i : PV) : Prop :=
  isInt i ∧ 0 ≤ numOf i ∧ numOf i < lenV a ∧ match a with | .str _ => True | _ => False
def lenOk (st : Bool) : PV → Prop
  | .str _ => st = true
  | .sl _ _ | .own _ _ _ | .nilsl => st = false
  | _ => False
def extV (i : Nat) : PV → PV
  | .tup l => PV.nth l i
  | _ => .any
def extOk (i : Nat) : PV → Prop
  | .tup l => i < l.length
  | _ => False
def fillV (e : Env) : List PV → List (Nat × Nat × VA) → List PV
  | cs, [] => cs
  | cs, (o, _, a) :: r => fillV e (overlay cs o (a.ev e).cells) r
def fillOk (e : Env) (n : Nat) : List (Nat × Nat × VA) → Prop
  | [] => True
  | (o, s, a) :: r => (a.ev e).fits s = true ∧ o + s ≤ n ∧ fillOk e n r
def mmV (mx : Bool) : PV → PV → PV
  | .int k a, .int _ b => .int k (if mx then (if b > a then b else a) else (if b < a then b else a))
  | _, _ => .any

/-- What surely is not nil. -/
def notNil : PV → Bool
  | .loc _ _ _ | .ro _ | .mp _ => true
  | .fn (.func _) _ _ => true
  | .sl _ (_ :: _) => true
  | .own _ _ (_ + 1) => true
  | _ => false
def isNil : PV → Bool
  | .nilsl | .nilp | .nilmp | .nilfn => true
  | _ => false
def isPtr : PV → Bool
  | .loc _ _ _ | .ro _ => true
  | .fn (.func _) _ _ => true
  | _ => false
def pxV (h : Heap) : PX → List PV → PV
  | .nck, [a] => a
  | .unx, [.int k n] => intV .xor k (if k.signed then -1 else k.max) n
  | .isnil neg, [a] => .bool (isNil a != neg)
  | _, _ => .any
def pxOk (h : Heap) : PX → List PV → Prop
  | .nck, [a] => isPtr a = true
  | .unx, [a] => isInt a
  | .isnil _, [a] => isNil a = true ∨ notNil a = true
  | _, _ => False
/-- The pure ones: value. -/
def pval (e : Env) (h : Heap) : VOp → PV
  | .mv a => a.ev e
  | .pick c a b => pickV (c.ev e) (a.ev e) (b.ev e)
  | .build zr ps => .agg (fillV e zr ps)
  | .load g s a => aggV g ((locCells h (a.ev e)).take s)
  | .bin op a b => binV op (a.ev e) (b.ev e)
  | .binb op a b => binbV op (a.ev e) (b.ev e)
  | .strid a => a.ev e
  | .eqs neg _ a b => .bool (eqCells (cellsOfAgg (a.ev e)) (cellsOfAgg (b.ev e)) != neg)
  | .un op a => unV op (a.ev e)
  | .conv k a => convV k (a.ev e)
  | .mkfn f x y => .fn f (x.map (VA.ev e)) (y.map (VA.ev e))
  | .slice _ _ a lo hi => sliceV (a.ev e) (lo.map (VA.ev e)) (hi.map (VA.ev e))
  | .faddr off a => faddrV off (a.ev e)
  | .fld g off s a => aggV g (((cellsOfAgg (a.ev e)).drop off).take s)
  | .iaddr _ a i => iaddrV (a.ev e) (i.ev e)
  | .idx a i => idxV (a.ev e) (i.ev e)
  | .ext a i => extV i (a.ev e)
  | .len _ a => .int .i64 (lenV (a.ev e))
  | .lookup _ zr ok m k => lookV zr ok (mapFind (k.ev e) (mapRows h (m.ev e)))
  | .mlen m => .int .i64 ((mapRows h (m.ev e)).length : Int)
  | .mm mx [a, b] => mmV mx (a.ev e) (b.ev e)
  | .px k l => pxV h k (l.map (VA.ev e))
  | _ => .any
/-- The pure ones: what is asked. -/
def pok (e : Env) (h : Heap) : VOp → Prop
  | .mv _ => True
  | .pick c _ _ => isBool (c.ev e)
  | .build zr ps => fillOk e zr.length ps
  | .load g s a => locOk h (a.ev e) ∧ s ≤ (locCells h (a.ev e)).length ∧ (g = false → s = 1)
  | .bin op a b => binOk op (a.ev e) (b.ev e)
  | .binb op a b => binbOk op (a.ev e) (b.ev e)
  | .strid a => isStr (a.ev e)
  | .eqs _ ks a b => isAggP (a.ev e) ∧ isAggP (b.ev e) ∧ eqOk ks (cellsOfAgg (a.ev e)) (cellsOfAgg (b.ev e))
  | .un op a => unOk op (a.ev e)
  | .conv _ a => isInt (a.ev e)
  | .mkfn _ _ _ => True
  | .slice st z a lo hi => sliceOk st z h (a.ev e) (lo.map (VA.ev e)) (hi.map (VA.ev e))
  | .faddr _ a => isAddr (a.ev e)
  | .fld g off s a => isAggP (a.ev e) ∧ off + s ≤ (cellsOfAgg (a.ev e)).length ∧ (g = false → s = 1)
  | .iaddr z a i => iaddrOk z h (a.ev e) (i.ev e)
  | .idx a i => idxOk (a.ev e) (i.ev e)
  | .ext a i => extOk i (a.ev e)
  | .len st a => lenOk st (a.ev e)
  | .lookup kk _ _ m k => mapOk h (m.ev e) ∧ keysOk kk (k.ev e) (mapRows h (m.ev e))
  | .mlen m => mapOk h (m.ev e)
  | .mm _ [a, b] => isInt (a.ev e) ∧ isInt (b.ev e)
  | .px k l => pxOk h k (l.map (VA.ev e))
  | _ => False
def VOp.pure : VOp → Bool
  | .mv _ | .pick .. | .build .. | .load .. | .bin .. | .eqs .. | .binb .. | .strid _ | .un .. | .conv .. | .mkfn .. | .slice .. | .faddr .. | .fld .. | .iaddr .. | .idx .. | .ext .. | .len .. | .lookup .. | .mlen .. | .mm .. | .px .. => true
  | _ => false
end Go.VM

