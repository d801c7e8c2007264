/- The evaluator: what it makes of the model's operations, and what it does with them. No program is named here. -/
import Derived.Test.YtnpmgkccfknlkaaGreatDoorAiBase
import GoSem.Dispatch
import GoSem.Step
import GoSem.Core.Layout
namespace Go.AI

/-! ### Whole numbers, so that the kernel reckons quickly -/

def half (k : IntKind) : Nat := match k with | .i8 => 128 | .i16 => 32768 | .i32 => 2147483648 | .i64 => 9223372036854775808 | .u8 => 128 | .u16 => 32768 | .u32 => 2147483648 | .u64 => 9223372036854775808
def full (k : IntKind) : Nat := match k with | .i8 | .u8 => 256 | .i16 | .u16 => 65536 | .i32 | .u32 => 4294967296 | .i64 | .u64 => 18446744073709551616

def wrapF (k : IntKind) (n : Int) : Int :=
  match n with
  | .ofNat m => bif Nat.blt m (half k) then .ofNat m else match k with
    | .u8 | .u16 | .u32 | .u64 => .ofNat (Nat.mod m (full k))
    | _ => k.wrap (.ofNat m)
  | .negSucc m => match k with
    | .i8 | .i16 | .i32 | .i64 => bif Nat.blt m (half k) then .negSucc m else k.wrap (.negSucc m)
    | _ => k.wrap (.negSucc m)

def iltF (x y : Int) : Bool :=
  match x, y with
  | .ofNat a, .ofNat b => Nat.blt a b
  | .ofNat _, .negSucc _ => false
  | .negSucc _, .ofNat _ => true
  | .negSucc a, .negSucc b => Nat.blt b a
def ieqF (x y : Int) : Bool :=
  match x, y with
  | .ofNat a, .ofNat b => Nat.beq a b
  | .negSucc a, .negSucc b => Nat.beq a b
  | _, _ => false

def bitsS (op : BinOp) (k : IntKind) (x y : Int) : Option Int :=
  let a := BitVec.ofInt k.bits x
  let b := BitVec.ofInt k.bits y
  match op with
  | .and => some (k.wrap (a &&& b).toNat)
  | .or => some (k.wrap (a ||| b).toNat)
  | .xor => some (k.wrap (a ^^^ b).toNat)
  | .andNot => some (k.wrap (a &&& ~~~b).toNat)
  | _ => none

def bitsF (op : BinOp) (k : IntKind) (x y : Int) : Option Int :=
  match x, y with
  | .ofNat a, .ofNat b => bif Nat.blt a (full k) && Nat.blt b (full k) then
      match op with
      | .and => some (wrapF k (.ofNat (Nat.land a b)))
      | .or => some (wrapF k (.ofNat (Nat.lor a b)))
      | .xor => some (wrapF k (.ofNat (Nat.xor a b)))
      | .andNot => some (wrapF k (.ofNat (Nat.land a (Nat.sub (Nat.sub (full k) 1) b))))
      | _ => none
    else bitsS op k x y
  | _, _ => bitsS op k x y

def shiftF (op : BinOp) (k : IntKind) (x y : Int) : Option Int :=
  match y with
  | .negSucc _ => none
  | .ofNat n =>
    let m := bif Nat.blt n k.bits then n else k.bits
    match op with
    | .shl => match x with
      | .ofNat a => some (wrapF k (.ofNat (Nat.mul a (Nat.pow 2 m))))
      | .negSucc _ => some (k.wrap (x * 2 ^ m))
    | .shr => match x with
      | .ofNat a => some (.ofNat (Nat.div a (Nat.pow 2 m)))
      | .negSucc _ => some (x.fdiv (2 ^ m))
    | _ => none

def divF (op : BinOp) (k : IntKind) (x y : Int) : Option Int :=
  match x, y with
  | _, .ofNat 0 => none
  | .ofNat a, .ofNat (b + 1) => match op with
    | .quo => some (wrapF k (.ofNat (Nat.div a (b + 1))))
    | .rem => some (.ofNat (Nat.mod a (b + 1)))
    | _ => none
  | _, _ => match op with
    | .quo => some (k.wrap (x.tdiv y))
    | .rem => some (x.tmod y)
    | _ => none

def intBin (op : BinOp) (k : IntKind) (x : Int) (j : IntKind) (y : Int) : Option Value :=
  match op with
  | .shl | .shr => (shiftF op k x y).map (.int k)
  | .add => if k = j then some (.int k (wrapF k (x + y))) else none
  | .sub => if k = j then some (.int k (wrapF k (x - y))) else none
  | .mul => if k = j then some (.int k (wrapF k (x * y))) else none
  | .quo | .rem => if k = j then (divF op k x y).map (.int k) else none
  | .and | .or | .xor | .andNot => if k = j then (bitsF op k x y).map (.int k) else none
  | .eql => if k = j then some (.bool (ieqF x y)) else none
  | .neq => if k = j then some (.bool (!ieqF x y)) else none
  | .lss => if k = j then some (.bool (iltF x y)) else none
  | .leq => if k = j then some (.bool (!iltF y x)) else none
  | .gtr => if k = j then some (.bool (iltF y x)) else none
  | .geq => if k = j then some (.bool (!iltF x y)) else none

def bytesEq : List UInt8 → List UInt8 → Bool
  | [], [] => true
  | a :: x, b :: y => a == b && bytesEq x y
  | _, _ => false

def strBin (op : BinOp) (x y : ByteArray) : Option Value :=
  match op with
  | .add => if x.size + y.size ≤ 9223372036854775807 then some (.string ⟨⟨x.data.toList ++ y.data.toList⟩⟩) else none
  | .eql => some (.bool (bytesEq x.data.toList y.data.toList))
  | .neq => some (.bool (!bytesEq x.data.toList y.data.toList))
  | .lss => some (.bool (Op.bytesLess x.data.toList y.data.toList))
  | .gtr => some (.bool (!(Op.bytesLess x.data.toList y.data.toList || bytesEq x.data.toList y.data.toList)))
  | .leq => some (.bool (Op.bytesLess x.data.toList y.data.toList || bytesEq x.data.toList y.data.toList))
  | .geq => some (.bool (!Op.bytesLess x.data.toList y.data.toList))
  | _ => none

/-! ### Operations -/

inductive Opd where
  | t (n : Nat)
  | c (v : Value)

/-- How two values of a type are held against each other. -/
inductive LK where
  | int | bool | str
inductive EqK where
  | num | ptr | slc | iface | func | agg (ks : List LK) | no

/-- What only looks at temporaries. -/
inductive PureOp where
  | mv (x : Opd)
  | pick (c a b : Opd)
  | bin (op : BinOp) (e : EqK) (x y : Opd)
  | not (x : Opd)
  | neg (x : Opd)
  | com (x : Opd)
  | conv (k : IntKind) (x : Opd)
  | same (x : Opd)
  | slS (x : Opd) (lo hi : Option Opd)
  | slL (e : Nat) (x : Opd) (lo hi mx : Option Opd)
  | slA (n e : Nat) (x : Opd) (lo hi mx : Option Opd)
  | nilck (x : Opd)
  | fadd (off : Nat) (x : Opd)
  | idxL (e : Nat) (x i : Opd)
  | idxA (n e : Nat) (x i : Opd)
  | idxS (x i : Opd)
  | idxG (n e : Nat) (agg : Bool) (x i : Opd)
  | fld (off n : Nat) (agg : Bool) (x : Opd)
  | ext (k : Nat) (x : Opd)
  | mkfn (f : Nat) (cs : List Opd)
  | build (zero : List Value) (ps : List (Nat × Nat × Opd))
  | len (x : Opd)
  | lens (x : Opd)
  | alen (n : Nat)
  | cap (x : Opd)
  | max (xs : List Opd)
  | min (xs : List Opd)

inductive IOp where
  | pure (d : Nat) (p : PureOp)
  | load (d n : Nat) (agg : Bool) (a : Opd)
  | store (n : Nat) (a x : Opd)
  | new (d : Nat) (heap : Bool) (cs : List Value)
  | box (d : Nat) (heap : Bool) (x : Opd)
  | bslice (d n e : Nat) (zero : List Value) (ps : List (Nat × Opd))
  | mslice (d e b : Nat) (zero : List Value) (l c : Opd)
  | s2b (d t : Nat) (x : Opd)
  | b2s (d : Nat) (x : Opd)
  | append (d e b t : Nat) (x y : Opd)
  | copy (d e : Nat) (x y : Opd)
  | clear (d e : Nat) (zero : List Value) (x : Opd)
  | call (d : Option Nat) (f : Opd) (xs : List Opd)
  | mmap (d : Nat)
  | mget (d : Nat) (zero : List Value) (agg ok : Bool) (m k : Opd)
  | mset (m k x : Opd)
  | ment (d : Nat) (zero : List Value) (agg : Bool) (m k : Opd)
  | ests (m s x : Opd)
  | mlen (d : Nat) (m : Opd)
  | mclr (d : Nat) (m : Opd)
  | newt (d : Nat) (heap : Bool) (t : Nat) (cs : List Value)
  | tou (d t : Nat) (x : Opd)
  | fromu (d t n : Nat) (x : Opd)
  | usd (d : Nat) (x : Opd)
  | ustr (d t : Nat) (x n : Opd)

inductive ICode where
  | skip
  | ops (l : List (Option (Nat × Bool) × IOp))
  | drawn (l : List (Option (Nat × Bool) × IOp)) (bf : List (List Nat))
  | seq (a b : ICode)
  | cond (c : Opd) (a b : ICode)
  | block (id : Nat) (a : ICode)
  | loop (a : ICode)
  | exit (id : Nat)
  | ret

/-! ### The making -/

def okFlat : Value → Bool
  | .bool _ | .int _ _ | .string _ | .pointer none | .slice none _ _ | .map none | .nilFunc | .nilIface => true
  | _ => false
def okConst : Value → Bool
  | .agg cs => cs.toList.all okFlat
  | v => okFlat v

def mkOpd : Operand → Option Opd
  | .tmp t => some (.t t)
  | .const v => if okConst v then some (.c v) else none
  | .func f => some (.c (.func (.func f) #[] #[]))
  | .global _ => none

def mkOpt : Option Operand → Option (Option Opd)
  | none => some none
  | some x => (mkOpd x).map some

def mkOpds : List Operand → Option (List Opd)
  | [] => some []
  | x :: r => match mkOpd x, mkOpds r with
    | some y, some s => some (y :: s)
    | _, _ => none

section
variable (P : Program)

def zeroOf (t : TypeId) : Option (List Value) :=
  match P.info? t with
  | some i => match i.zero with
    | some z => if z.cells.toList.all okFlat && Nat.beq z.cells.size i.size then some z.cells.toList else none
    | none => none
  | none => none
def sizeT (t : TypeId) : Option Nat := (P.info? t).map (·.size)
def aggT (t : TypeId) : Option Bool :=
  match P.underlying t with
  | some (.struct _) | some (.array _ _) => some true
  | some _ => some false
  | none => none

/-- Structs whose fields are all numbers, bools, strings: one cell each. -/
def leafT (t : TypeId) : Option LK :=
  bif Nat.beq (((P.info? t).map (·.size)).getD 0) 1 then (match P.underlying t with
  | some (.int _) => some .int
  | some .bool => some .bool
  | some .string => some .str
  | _ => none) else none
def leafStruct (fs : List Field) : Nat → Option (List LK)
  | off => match fs with
    | [] => some []
    | f :: r => match leafT P f.type, leafStruct r (off + 1) with
      | some k, some s => bif f.name != "_" && Nat.beq f.offset off then some (k :: s) else none
      | _, _ => none

def eqk (t : TypeId) : EqK :=
  match P.underlying t with
  | some .bool => .num
  | some (.pointer e) => match P.info? e with
    | some i => if i.size = 0 then .no else .ptr
    | none => .no
  | some (.slice _) => .slc
  | some (.interface _) => .iface
  | some (.func _ _ _) => .func
  | some (.struct fs) => match leafStruct P fs.toList 0 with
    | some ks => if !P.stoodInHeld t && !P.eqGuardType P.depth t then .agg ks else .no
    | none => .no
  | _ => .no

def mkParts (place : Nat → Option (Nat × Nat)) : List (Nat × Operand) → Option (List (Nat × Nat × Opd))
  | [] => some []
  | (i, x) :: r => match place i, mkOpd x, mkParts place r with
    | some (off, n), some y, some s => some ((off, n, y) :: s)
    | _, _, _ => none
def mkRow : List (Nat × Operand) → Option (List (Nat × Opd))
  | [] => some []
  | (i, x) :: r => match mkOpd x, mkRow r with
    | some y, some s => some ((i, y) :: s)
    | _, _ => none

def fieldPlaces : List Field → Option (List (Nat × Nat))
  | [] => some []
  | f :: r => match sizeT P f.type, fieldPlaces r with
    | some n, some s => some ((f.offset, n) :: s)
    | _, _ => none

def mkBuiltin (b : Builtin) (xs : List Opd) (t : Option TypeId) : Option PureOp :=
  match b with
  | .max => some (.max xs)
  | .min => some (.min xs)
  | .len => match xs with
    | [x] => match t with
      | some t => match P.underlying t with
        | some .string => some (.lens x)
        | some (.slice _) => some (.len x)
        | some (.array n _) => some (.alen n)
        | _ => none
      | none => none
    | _ => none
  | .cap => match xs with
    | [x] => match t with
      | some t => match P.underlying t with
        | some (.slice _) => some (.cap x)
        | _ => none
      | none => none
    | _ => none
  | _ => none

def mkPure : Op → Option PureOp
  | .move x | .assign x => (mkOpd x).map .mv
  | .pick c a b => match mkOpd c, mkOpd a, mkOpd b with
    | some c, some a, some b => some (.pick c a b)
    | _, _, _ => none
  | .binOp op t x y _ => match mkOpd x, mkOpd y with
    | some x, some y => some (.bin op (eqk P t) x y)
    | _, _ => none
  | .unOp op _ x => match op with
    | .not => (mkOpd x).map .not
    | .neg => (mkOpd x).map .neg
    | .xor => (mkOpd x).map .com
    | _ => none
  | .convert s d x => match P.underlying s, P.underlying d with
    | some _, some (.int k) => (mkOpd x).map (.conv k)
    | some .string, some .string => (mkOpd x).map .same
    | _, _ => none
  | .slice t x lo hi mx => match mkOpd x, mkOpt lo, mkOpt hi, mkOpt mx with
    | some x, some lo, some hi, some mx => match P.underlying t with
      | some .string => match mx with | none => some (.slS x lo hi) | some _ => none
      | some (.slice e) => (sizeT P e).map fun n => .slL n x lo hi mx
      | some (.array n e) => (sizeT P e).map fun m => .slA n m x lo hi mx
      | _ => none
    | _, _, _, _ => none
  | .nilCheck x => (mkOpd x).map .nilck
  | .fieldAddr s x f => match P.underlying s with
    | some (.struct fs) => match fs[f]? with
      | some f => match P.info? f.type with
        | some i => if i.size = 0 then none else (mkOpd x).map (.fadd f.offset)
        | none => none
      | none => none
    | _ => none
  | .indexAddr t x i => match mkOpd x, mkOpd i with
    | some x, some i => match P.underlying t with
      | some (.slice e) => (sizeT P e).map fun n => .idxL n x i
      | some (.array n e) => (sizeT P e).map fun m => .idxA n m x i
      | _ => none
    | _, _ => none
  | .index t x i => match mkOpd x, mkOpd i with
    | some x, some i => match P.underlying t with
      | some .string => some (.idxS x i)
      | some (.array n e) => match sizeT P e, aggT P e with
        | some m, some a => some (.idxG n m a x i)
        | _, _ => none
      | _ => none
    | _, _ => none
  | .field t x f => match P.underlying t with
    | some (.struct fs) => match fs[f]? with
      | some f => match sizeT P f.type, aggT P f.type, mkOpd x with
        | some n, some a, some x => some (.fld f.offset n a x)
        | _, _, _ => none
      | none => none
    | _ => none
  | .extract t k => (mkOpd t).map (.ext k)
  | .makeFunc fn first cs => match fn, first.toList with
    | .func f, [] => (mkOpds cs.toList).map (.mkfn f)
    | _, _ => none
  | .build t ps => match zeroOf P t with
    | some z => match P.underlying t with
      | some (.struct fs) => match fieldPlaces P fs.toList with
        | some pl => (mkParts (pl[·]?) ps.toList).map (.build z)
        | none => none
      | some (.array _ e) => match sizeT P e with
        | some n => (mkParts (fun i => some (i * n, n)) ps.toList).map (.build z)
        | none => none
      | _ => none
    | none => none
  | .call { callee := .builtin b, args := as, argTypes := ts } => match mkOpds as.toList with
    | some xs => mkBuiltin P b xs ts[0]?
    | none => none
  | _ => none

/-- A struct whose first part points to another one of it. -/
def selfPtr (t : TypeId) : Bool :=
  match P.underlying t with
  | some (.struct fs) => match fs.toList with
    | f :: _ => match P.underlying f.type with
      | some (.pointer u) => Nat.beq u t
      | _ => false
    | [] => false
  | _ => false

def mkOp1 (esc : Nat → Bool) (N : Nat) (o : Oper) : Option IOp :=
  match o.dst with
  | some d => bif Nat.blt d N then (match mkPure P o.op with
    | some p => some (.pure d p)
    | none => match o.op with
      | .load t a => match aggT P t, sizeT P t, mkOpd a with
        | some g, some n, some a => if g && Nat.beq n 0 then none else some (.load d (bif g then n else 1) g a)
        | _, _, _ => none
      | .alloc t => match zeroOf P t with
        | some z => if selfPtr P t = true then some (.newt d (esc d) t z) else some (.new d (esc d) z)
        | none => none
      | .box _ x => (mkOpd x).map (.box d (esc d))
      | .buildSlice t n ps => match P.underlying t with
        | some (.slice e) => match zeroOf P e, sizeT P e, mkRow ps.toList with
          | some z, some m, some ps => if n * m ≤ 16777216 then some (.bslice d n m z ps) else none
          | _, _, _ => none
        | _ => none
      | .makeSlice t l c => match P.underlying t with
        | some (.slice e) => match P.info? e with
          | some i => match zeroOf P e, mkOpd l, mkOpd c with
            | some z, some l, some c => some (.mslice d i.size i.bytes z l c)
            | _, _, _ => none
          | none => none
        | _ => none
      | .convert s t x => match P.underlying s, P.underlying t with
        | some .string, some (.slice e) => match P.underlying e with
          | some (.int .u8) => (mkOpd x).map (.s2b d e)
          | _ => none
        | some (.slice e), some .string => match P.underlying e with
          | some (.int .u8) => (mkOpd x).map (.b2s d)
          | _ => none
        | some (.pointer u), some .unsafePointer => match P.info? u with
          | some j => if j.size = 0 then none else (mkOpd x).map (.tou d u)
          | none => none
        | some .unsafePointer, some (.pointer u) => match P.info? u with
          | some j => if liesAt P P.depth u (j.size / P.cellsOf u) 0 u 1 = true then (mkOpd x).map (.fromu d u j.size) else none
          | none => none
        | _, _ => none
      | .call { callee := .value f, args := as, argTypes := _ } => match mkOpd f, mkOpds as.toList with
        | some f, some xs => some (.call (some d) f xs)
        | _, _ => none
      | .call { callee := .builtin b, args := as, argTypes := ts } => match mkOpds as.toList, ts[0]? with
        | some xs, some t => match b, xs, P.underlying t with
          | .append, [x, y], some (.slice e) => match P.info? e, ts[1]? with
            | some i, some u => match zeroOf P e, P.underlying u with
              | some _, some (.slice _) | some _, some .string => if i.bytes = 0 || i.size = 0 then none else some (.append d i.size i.bytes e x y)
              | _, _ => none
            | _, _ => none
          | .copy, [x, y], some (.slice e) => match sizeT P e with
            | some n => if n = 0 then none else some (.copy d n x y)
            | none => none
          | .clear, [x], some (.slice e) => (zeroOf P e).map fun z => .clear d z.length z x
          | .len, [m], some (.map _ _) => some (.mlen d m)
          | .unsafeSliceData, [x], some (.slice _) => some (.usd d x)
          | .unsafeString, [x, y], some (.pointer e) => if P.cellsOf e = 1 then some (.ustr d e x y) else none
          | _, _, _ => none
        | _, _ => none
      | .makeMap _ none => some (.mmap d)
      | .lookup t m k ok => match P.underlying t with
        | some (.map kt e) => match P.underlying kt, zeroOf P e, aggT P e, mkOpd m, mkOpd k with
          | some (.int _), some z, some g, some m, some k => some (.mget d z g ok m k)
          | _, _, _, _, _ => none
        | _ => none
      | .mapEntry t m k => match P.underlying t with
        | some (.map kt e) => match P.underlying kt, zeroOf P e, aggT P e, mkOpd m, mkOpd k with
          | some (.int _), some z, some g, some m, some k => some (.ment d z g m k)
          | _, _, _, _, _ => none
        | _ => none
      | _ => none) else none
  | none => match o.op with
    | .store t a x => match sizeT P t, mkOpd a, mkOpd x with
      | some n, some a, some x => some (.store n a x)
      | _, _, _ => none
    | .call { callee := .value f, args := as, argTypes := _ } => match mkOpd f, mkOpds as.toList with
      | some f, some xs => some (.call none f xs)
      | _, _ => none
    | .mapUpdate t m k x => match P.underlying t with
      | some (.map kt _) => match P.underlying kt, mkOpd m, mkOpd k, mkOpd x with
        | some (.int _), some m, some k, some x => some (.mset m k x)
        | _, _, _, _ => none
      | _ => none
    | .entryStore _ m s x => match mkOpd m, mkOpd s, mkOpd x with
      | some m, some s, some x => some (.ests m s x)
      | _, _, _ => none
    | _ => none

/-- What the evaluator has no answer for. -/
def badOp : Option Nat → IOp
  | some d => .mclr d (.c .nilFunc)
  | none => .mset (.c .nilFunc) (.c .nilFunc) (.c .nilFunc)
def mkOp (esc : Nat → Bool) (N : Nat) (o : Oper) : Option IOp :=
  match mkOp1 P esc N o with
  | some i => some i
  | none => bif (match o.dst with | some d => Nat.blt d N | none => true) then some (badOp o.dst) else none

def mkGuard (ops : List Oper) : Option (Nat × Bool) → Option (Option (Nat × Bool))
  | none => some none
  | some (j, w) => match ops[j]? with
    | some o => o.dst.map fun d => some (d, w)
    | none => none

def mkOps (esc : Nat → Bool) (N : Nat) (all : List Oper) : List Oper → Option (List (Option (Nat × Bool) × IOp))
  | [] => some []
  | o :: r => match mkGuard all o.guard, mkOp P esc N o, mkOps esc N all r with
    | some g, some i, some s => some ((g, i) :: s)
    | _, _, _ => none

def IOp.dst : IOp → Option Nat
  | .pure d _ | .load d _ _ _ | .new d _ _ | .box d _ _ | .bslice d _ _ _ _ | .mslice d _ _ _ _ _ | .s2b d _ _ | .b2s d _ | .append d _ _ _ _ _ | .copy d _ _ _ | .clear d _ _ _ | .mmap d | .mget d _ _ _ _ _ | .ment d _ _ _ _ | .mlen d _ | .mclr d _ | .newt d _ _ _ | .tou d _ _ | .fromu d _ _ _ | .usd d _ | .ustr d _ _ _ => some d
  | .store _ _ _ | .mset _ _ _ | .ests _ _ _ => none
  | .call d _ _ => d

/-- May a region be walked so? Each temporary is written once; what waits, waits for what stands ahead of it. -/
def slotsOnce : List (Option (Nat × Bool) × IOp) → Bool
  | [] => true
  | (_, i) :: r => (match i.dst with | some d => r.all (fun x => match x.2.dst with | some e => !Nat.beq d e | none => true) | none => true) && slotsOnce r
def bfOk : Nat → List (List Nat) → Bool
  | _, [] => true
  | k, l :: r => l.all (fun i => Nat.blt i k) && bfOk (Nat.succ k) r

/-! Lists that are reckoned at once, so that nothing is reckoned twice. -/
def fNat {β : Type} (n : Nat) (k : Nat → β) : β := match n with
  | 0 => k 0
  | m + 1 => k (m + 1)
theorem fNat_eq {β : Type} (n : Nat) (k : Nat → β) : fNat n k = k n := by cases n <;> rfl
def fList {β : Type} : List Nat → (List Nat → β) → β
  | [], k => k []
  | x :: r, k => fNat x fun x => fList r fun r => k (x :: r)
theorem fList_eq {β : Type} : ∀ (l : List Nat) (k : List Nat → β), fList l k = k l
  | [], k => rfl
  | x :: r, k => by simp only [fList, fNat_eq, fList_eq r]
def fSpine {α β : Type} : List α → (List α → β) → β
  | [], k => k []
  | x :: r, k => fSpine r fun r => k (x :: r)
theorem fSpine_eq {α β : Type} : ∀ (l : List α) (k : List α → β), fSpine l k = k l
  | [], k => rfl
  | x :: r, k => by simp only [fSpine, fSpine_eq r]
/-- Each number once; a number's bits tell which have been met. -/
def undup : List Nat → Nat → List Nat
  | [], _ => []
  | x :: r, m => bif Nat.testBit m x then undup r m else x :: undup r (Nat.lor m (Nat.shiftLeft 1 x))
theorem mem_undup {i : Nat} : ∀ (l : List Nat) (m : Nat), (i ∈ undup l m → i ∈ l) ∧ (i ∈ l → m.testBit i = false → i ∈ undup l m)
  | [], m => by simp [undup]
  | x :: r, m => by
    simp only [undup]
    cases h : m.testBit x with
    | true =>
      rw [cond_true]
      obtain ⟨h1, h2⟩ := mem_undup (i := i) r m
      refine ⟨fun h => List.mem_cons_of_mem _ (h1 h), fun hi hm => ?_⟩
      rcases List.mem_cons.1 hi with rfl | hi
      · rw [h] at hm; cases hm
      · exact h2 hi hm
    | false =>
      rw [cond_false]
      obtain ⟨h1, h2⟩ := mem_undup (i := i) r (Nat.lor m (Nat.shiftLeft 1 x))
      refine ⟨fun hi => ?_, fun hi hm => ?_⟩
      · rcases List.mem_cons.1 hi with rfl | hi
        · exact List.mem_cons_self ..
        · exact List.mem_cons_of_mem _ (h1 hi)
      · rcases List.mem_cons.1 hi with rfl | hi
        · exact List.mem_cons_self ..
        · by_cases e : i = x
          · rw [e]; exact List.mem_cons_self ..
          · refine List.mem_cons_of_mem _ (h2 hi ?_)
            have h3 : Nat.lor m (Nat.shiftLeft 1 x) = m ||| 2 ^ x := by
              show m ||| (1 <<< x) = _
              rw [Nat.one_shiftLeft]
            rw [h3, Nat.testBit_or, Nat.testBit_two_pow, hm]
            have : decide (x = i) = false := by simp only [decide_eq_false_iff_not]; exact fun h => e h.symm
            rw [this]; rfl

/-- Which operations come ahead of each, whatever the order. -/
def ahead (es : List Nat) (bf : List (List Nat)) : List Nat := undup (es ++ (es.map fun k => bf.getD k []).flatten) 0
theorem mem_ahead {i : Nat} {es : List Nat} {bf : List (List Nat)} : i ∈ ahead es bf ↔ i ∈ es ++ (es.map fun k => bf.getD k []).flatten :=
  ⟨(mem_undup _ 0).1, fun h => (mem_undup _ 0).2 h (Nat.zero_testBit i)⟩
def befores : List Oper → List (List Nat) → List (List Nat)
  | [], acc => acc
  | o :: r, acc => fList (ahead ((o.after.toList.filter (Region.binds .any)).map (·.on)) acc) fun l => fSpine (acc ++ [l]) fun acc => befores r acc
theorem befores_cons (o : Oper) (r : List Oper) (acc : List (List Nat)) : befores (o :: r) acc = befores r (acc ++ [ahead ((o.after.toList.filter (Region.binds .any)).map (·.on)) acc]) := by
  simp only [befores, fList_eq, fSpine_eq]

def mkCode (esc : Nat → Bool) (N : Nat) : Code → Option ICode
  | .skip => some .skip
  | .region _ os false => (mkOps P esc N os.toList os.toList).map .ops
  | .region _ os true => match mkOps P esc N os.toList os.toList with
    | some l => bif slotsOnce l && bfOk 0 (befores os.toList []) then some (.drawn l (befores os.toList [])) else none
    | none => none
  | .seq a b => match mkCode esc N a, mkCode esc N b with
    | some x, some y => some (.seq x y)
    | _, _ => none
  | .cond c a b => match mkOpd c, mkCode esc N a, mkCode esc N b with
    | some c, some x, some y => some (.cond c x y)
    | _, _, _ => none
  | .block id a => (mkCode esc N a).map (.block id)
  | .loop a => (mkCode esc N a).map .loop
  | .exit id => some (.exit id)
  | .ret => some .ret
  | _ => some (.cond (.c .nilFunc) .skip .skip)

inductive IRes where
  | tmp (t : Nat)
  | cell (t n : Nat) (g : Bool)
structure IFn where
  code : ICode
  n : Nat
  res : List IRes

def mkRes : List ResultVar → Option (List IRes)
  | [] => some []
  | .tmp t :: r => (mkRes r).map (.tmp t :: ·)
  | .cell a t :: r => match aggT P t, sizeT P t, mkRes r with
    | some g, some n, some s => if g && Nat.beq n 0 then none else some (.cell a (bif g then n else 1) g :: s)
    | _, _, _ => none

def mkFn (esc : Nat → Nat → Bool) (f : Nat) : Option IFn :=
  match P.funcs[f]? with
  | some fn => match fn.body with
    | some c => match mkCode P (esc f) fn.ntmps c, mkRes P fn.results.toList with
      | some ic, some rs => if fn.name == "runtime.NumGoroutine" then none else some ⟨ic, fn.ntmps, rs⟩
      | _, _ => none
    | none => none
  | none => none
end

/-! ### The doing -/

structure Fr (X : Type) where
  env : List (Nat × Value)
  loc : List (Nat × AObj X)

structure Heap (X : Type) where
  next : Nat
  tbl : List (Nat × AObj X)

section
variable {X : Type}

def evo (env : List (Nat × Value)) : Opd → Option Value
  | .t n => look n env
  | .c v => some v
def evs (env : List (Nat × Value)) : List Opd → Option (List Value)
  | [] => some []
  | x :: r => match evo env x, evs env r with
    | some v, some s => some (v :: s)
    | _, _ => none
def evopt (env : List (Nat × Value)) : Option Opd → Option (Option Value)
  | none => some none
  | some x => (evo env x).map some

/-- An index: a whole number from 0 on. -/
def natOf : Value → Option Nat
  | .int _ (.ofNat n) => some n
  | _ => none
def natOpt (d : Nat) : Option Value → Option Nat
  | none => some d
  | some v => natOf v

def cellEq : LK → Value → Value → Option Bool
  | .int, .int j a, .int k b => if j = k then some (ieqF a b) else none
  | .bool, .bool a, .bool b => some (a == b)
  | .str, .string a, .string b => some (bytesEq a.data.toList b.data.toList)
  | _, _, _ => none
def cellsEq : List LK → List Value → List Value → Option Bool
  | [], [], [] => some true
  | k :: s, a :: x, b :: y => match cellEq k a b with
    | some true => cellsEq s x y
    | some false => some false
    | none => none
  | _, _, _ => none

def eqVal (e : EqK) (x y : Value) : Option Bool :=
  match e, x, y with
  | .num, .bool a, .bool b => some (a == b)
  | .ptr, .pointer none, .pointer b => some b.isNone
  | .ptr, .pointer (some _), .pointer none => some false
  | .ptr, .pointer (some a), .pointer (some b) => bif Nat.beq a.block b.block then some (Nat.beq a.off b.off) else none
  | .slc, .slice none _ _, .slice b _ _ => some b.isNone
  | .slc, .slice (some _) _ _, .slice none _ _ => some false
  | .func, .nilFunc, .nilFunc => some true
  | .func, .nilFunc, .func _ _ _ => some false
  | .func, .func _ _ _, .nilFunc => some false
  | .agg ks, .agg a, .agg b => cellsEq ks a.toList b.toList
  | _, _, _ => none

def binVal (op : BinOp) (e : EqK) (x y : Value) : Option Value :=
  match x, y with
  | .int k a, .int j b => intBin op k a j b
  | .string a, .string b => strBin op a b
  | x, y => match op with
    | .eql => (eqVal e x y).map .bool
    | .neq => (eqVal e x y).map fun b => .bool (!b)
    | _ => none

def bounds (len cap : Nat) (lo hi mx : Option Value) : Option (Nat × Nat × Nat) :=
  match natOpt cap mx with
  | none => none
  | some m => match natOpt len hi with
    | none => none
    | some h => match natOpt 0 lo with
      | none => none
      | some l => bif Nat.ble m cap && (Nat.ble h m && Nat.ble l h) && (hi.isSome || mx.isNone) then some (l, h, m) else none

def sliceL (e : Nat) (a : Option Addr) (len cap : Nat) (lo hi mx : Option Value) : Option Value :=
  match bounds len cap lo hi mx with
  | none => none
  | some (l, h, m) => match a with
    | none => some (.slice none (h - l) (m - l))
    | some ⟨i, o, none⟩ => match mx with
      | none => bif Nat.blt l m || Nat.beq l 0 then some (.slice (some ⟨i, o + l * e, none⟩) (h - l) (m - l)) else some (.slice (some ⟨i, o, some 0⟩) 0 0)
      | some _ => bif Nat.beq m l then some (.slice (some ⟨i, o, some 1⟩) 0 0) else some (.slice (some ⟨i, o + l * e, some 1⟩) (h - l) (m - l))
    | some ⟨i, o, some 1⟩ => bif Nat.beq m l then some (.slice (some ⟨i, o, some 1⟩) 0 0) else some (.slice (some ⟨i, o + l * e, some 1⟩) (h - l) (m - l))
    | some ⟨i, o, some 0⟩ => some (.slice (some ⟨i, o, some 0⟩) 0 0)
    | _ => none

def maxes : Value → List Value → Option Value
  | v, [] => some v
  | .int k x, .int j y :: r => if j = k then maxes (.int k (bif iltF x y then y else x)) r else none
  | _, _ => none
def mines : Value → List Value → Option Value
  | v, [] => some v
  | .int k x, .int j y :: r => if j = k then mines (.int k (bif iltF y x then y else x)) r else none
  | _, _ => none

def over : List Value → List Value → List Value
  | cs, [] => cs
  | [], _ => []
  | _ :: cs, v :: vs => v :: over cs vs
def splice : List Value → Nat → List Value → List Value
  | cs, 0, vs => over cs vs
  | [], _, _ => []
  | c :: cs, n + 1, vs => c :: splice cs n vs

/-- The cells that a value takes. -/
def cellsV : Value → Option (List Value)
  | .agg cs => some cs.toList
  | .tuple _ => none
  | v => some [v]

def fillp (env : List (Nat × Value)) : List Value → List (Nat × Nat × Opd) → Option (List Value)
  | cs, [] => some cs
  | cs, (off, n, x) :: r => match evo env x with
    | some v => match cellsV v with
      | some vs => bif Nat.beq vs.length n && Nat.ble (off + n) cs.length then fillp env (splice cs off vs) r else none
      | none => none
    | none => none

def ptrs : List Value → Option (List Addr)
  | [] => some []
  | .pointer (some a) :: r => (ptrs r).map (a :: ·)
  | _ => none

def bytesAt : List UInt8 → Nat → Option UInt8
  | [], _ => none
  | b :: _, 0 => some b
  | _ :: r, n + 1 => bytesAt r n

def oneOf (agg : Bool) (cs : List Value) : Option Value :=
  bif agg then some (.agg ⟨cs⟩) else match cs with
    | [v] => some v
    | _ => none

def takeN (cs : List Value) (off n : Nat) : Option (List Value) :=
  let r := (cs.drop off).take n
  bif Nat.beq r.length n then some r else none

def peval (env : List (Nat × Value)) : PureOp → Option Value
  | .mv x => evo env x
  | .pick c a b => match evo env c with
    | some (.bool true) => evo env a
    | some (.bool false) => evo env b
    | _ => none
  | .bin op e x y => match evo env x, evo env y with
    | some a, some b => binVal op e a b
    | _, _ => none
  | .not x => match evo env x with
    | some (.bool b) => some (.bool (!b))
    | _ => none
  | .neg x => match evo env x with
    | some (.int k n) => some (.int k (wrapF k (0 - n)))
    | _ => none
  | .com x => match evo env x with
    | some (.int k n) => (bitsS .xor k (if k.signed then -1 else k.max) n).map (.int k)
    | _ => none
  | .conv k x => match evo env x with
    | some (.int _ n) => some (.int k (wrapF k n))
    | _ => none
  | .same x => match evo env x with
    | some (.string s) => some (.string s)
    | _ => none
  | .slS x lo hi => match evo env x, evopt env lo, evopt env hi with
    | some (.string s), some lo, some hi => match bounds s.size s.size lo hi none with
      | some (l, h, _) => some (.string ⟨⟨(s.data.toList.drop l).take (h - l)⟩⟩)
      | none => none
    | _, _, _ => none
  | .slL e x lo hi mx => match evo env x, evopt env lo, evopt env hi, evopt env mx with
    | some (.slice a len cap), some lo, some hi, some mx => sliceL e a len cap lo hi mx
    | _, _, _, _ => none
  | .slA n e x lo hi mx => match evo env x, evopt env lo, evopt env hi, evopt env mx with
    | some (.pointer (some ⟨i, o, none⟩)), some lo, some hi, some mx => sliceL e (some ⟨i, o, some 1⟩) n n lo hi mx
    | _, _, _, _ => none
  | .nilck x => match evo env x with
    | some (.pointer (some a)) => some (.pointer (some a))
    | _ => none
  | .fadd off x => match evo env x with
    | some (.pointer (some ⟨i, o, none⟩)) => some (.pointer (some ⟨i, o + off, none⟩))
    | _ => none
  | .idxL e x i => match evo env x, evo env i with
    | some (.slice (some ⟨b, o, _⟩) len _), some v => match natOf v with
      | some n => bif Nat.blt n len then some (.pointer (some ⟨b, o + n * e, none⟩)) else none
      | none => none
    | _, _ => none
  | .idxA n e x i => match evo env x, evo env i with
    | some (.pointer (some ⟨b, o, none⟩)), some v => match natOf v with
      | some k => bif Nat.blt k n then some (.pointer (some ⟨b, o + k * e, none⟩)) else none
      | none => none
    | _, _ => none
  | .idxS x i => match evo env x, evo env i with
    | some (.string s), some v => match natOf v with
      | some n => match bytesAt s.data.toList n with
        | some b => some (.int .u8 b.toNat)
        | none => none
      | none => none
    | _, _ => none
  | .idxG n e agg x i => match evo env x, evo env i with
    | some (.agg cs), some v => match natOf v with
      | some k => bif Nat.blt k n then (match takeN cs.toList (k * e) (bif agg then e else 1) with
        | some r => oneOf agg r
        | none => none) else none
      | none => none
    | _, _ => none
  | .fld off n agg x => match evo env x with
    | some (.agg cs) => match takeN cs.toList off (bif agg then n else 1) with
      | some r => oneOf agg r
      | none => none
    | _ => none
  | .ext k x => match evo env x with
    | some (.tuple vs) => vs.toList[k]?
    | _ => none
  | .mkfn f cs => match evs env cs with
    | some vs => (ptrs vs).map fun as => .func (.func f) #[] ⟨as.map fun a => .pointer (some a)⟩
    | none => none
  | .build z ps => (fillp env z ps).map fun cs => .agg ⟨cs⟩
  | .len x => match evo env x with
    | some (.slice _ n _) => some (.int .i64 n)
    | _ => none
  | .lens x => match evo env x with
    | some (.string s) => some (.int .i64 s.size)
    | _ => none
  | .alen n => some (.int .i64 n)
  | .cap x => match evo env x with
    | some (.slice none _ c) => some (.int .i64 c)
    | some (.slice (some ⟨_, _, some 1⟩) _ c) => some (.int .i64 c)
    | _ => none
  | .max xs => match evs env xs with
    | some (.int k x :: r) => maxes (.int k x) r
    | _ => none
  | .min xs => match evs env xs with
    | some (.int k x :: r) => mines (.int k x) r
    | _ => none
end
end Go.AI
