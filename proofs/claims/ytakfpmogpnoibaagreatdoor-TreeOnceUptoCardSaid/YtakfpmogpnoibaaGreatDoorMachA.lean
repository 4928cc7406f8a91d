/- An abstract machine for small Go programs: its values, objects and states, and why most single operations of the model keep to it. -/
import Derived.Orders
import Derived.Laws.AppendOwn
import Derived.Below
import Derived.KernelRfl
import Derived.Laws.MakeOwn
set_option linter.unusedVariables false
set_option linter.unusedSimpArgs false
set_option linter.constructorNameAsVariable false
section
namespace Go.AM
open Go

inductive V where
 | i (k : IntKind) (n : Int)
 | b (x : Bool)
 | s (x : List UInt8)
 | c (v : Value)
 | ro (sz : Nat) (es : List (List V))
 | rp (cs : List V)
 | z
 | ptr (o ep ix fl : Nat)
 | sl (o ep off n : Nat)
 | mp (o : Nat)
 | agg (cs : List V)
 | tup (vs : List V)
 | fn (f : FuncId) (cap : List V)
 | bm (f : FuncId) (first : List V)
 | junk

instance : Inhabited V := ⟨.junk⟩

inductive CK where
 | int (k : IntKind)
 | bool
deriving DecidableEq
inductive KK where
 | int (k : IntKind)
 | str
 | ints (ks : List CK)
deriving DecidableEq

inductive Ob where
 | arr (ep sz : Nat) (es : List (List V))
 | mp (k : KK) (f : List Int → Option V)
 | var (t : TypeId) (cs : List V)
 | row (e : TypeId) (ep : Nat) (es : List (List V))
 | gone
 | unborn

instance : Inhabited Ob := ⟨.unborn⟩

structure St where
 t : List V
 h : List Ob

inductive TK where
 | str (fs : List (Nat × TypeId))
 | slc (e : TypeId)
 | map (k e : TypeId)
 | arr (n : Nat) (e : TypeId)
 | int (k : IntKind)
 | string
 | bool
 | ptr (e : TypeId)
 | func
 | iface
 | other
 deriving DecidableEq

def TK.of : TypeDesc → TK
 | .struct fs => .str (fs.toList.map fun f => (f.offset, f.type))
 | .slice e => .slc e
 | .map k e => .map k e
 | .array n e => .arr n e
 | .int k => .int k
 | .string => .string
 | .bool => .bool
 | .pointer e => .ptr e
 | .func .. => .func
 | .interface .. => .iface
 | _ => .other

def TK.agg : TK → Bool
 | .str _ | .arr _ _ => true
 | _ => false

structure TI where
 size : Nat
 bytes : Nat
 zv : Value
 kind : TK

instance : Inhabited TI := ⟨⟨0, 0, .tuple #[], .other⟩⟩

abbrev Tab := TypeId → TI

def toV : Value → V
 | .int k n => .i k n
 | .bool x => .b x
 | .string x => .s x.data.toList
 | .func (.func f) x y => if x.size = 0 ∧ y.size = 0 then .fn f [] else .junk
 | .func .. => .junk
 | .agg _ => .junk
 | .tuple _ => .junk
 | v => .c v

def TI.zero (ti : TI) : List V := ti.zv.cells.toList.map toV

def flatC : V → Bool
 | .i _ _ | .b _ | .s _ => true
 | _ => false

def okEq (P : Program) (t : TypeId) (ti : TI) : Bool :=
 match ti.kind with
 | .str _ => if ti.zero.all flatC = true then (match P.underlying t with
  | some (.struct fs) => fs.toList.all fun f => decide (f.name ≠ "_")
  | _ => false) && !P.stoodInHeld t && !P.eqGuardType P.depth t else true
 | _ => true

def TOKt (P : Program) (t : TypeId) (ti : TI) : Prop :=
 (P.info? t).map (fun i => (i.zero, i.size, i.bytes)) = some (some ti.zv, ti.size, ti.bytes) ∧ (P.underlying t).map TK.of = some ti.kind ∧ ti.zv.cells.toList.all (·.oneCell') = true ∧ ti.zv.cells.size = ti.size ∧ okEq P t ti = true

def TOK (P : Program) (T : Tab) : Prop := ∀ t, ((T t).size = 0 ∧ (T t).kind = .other) ∨ ((T t).size ≠ 0 ∧ TOKt P t (T t))

def St.ev (σ : St) : Operand → V
 | .tmp t => σ.t.getD t .junk
 | .const v => toV v
 | .func f => .fn f []
 | .global _ => .junk

def St.lk (σ : St) (o : Nat) : Ob := σ.h.getD o .unborn

def cellsOf : V → Option (List V)
 | .agg cs => some cs
 | .tup _ => none
 | .junk => none
 | x => some [x]

def valOf (ti : TI) (cs : List V) : Option V :=
 if ti.kind.agg then some (.agg cs) else match cs with
  | [x] => some x
  | _ => none

def over (c : List V) (fl : Nat) (cs : List V) : List V := c.take fl ++ cs ++ c.drop (fl + cs.length)

def ld (ti : TI) (lk : Nat → Ob) : V → Option V
 | .rp cs => if ti.size ≤ cs.length then valOf ti (cs.take ti.size) else none
 | .ptr o ep ix fl => match lk o with
  | .arr ep' _ es => if ep' = ep ∧ ix < es.length ∧ fl + ti.size ≤ (es.getD ix []).length then valOf ti (((es.getD ix []).drop fl).take ti.size) else none
  | .var _ cs => if ep = 0 ∧ ix = 0 ∧ fl + ti.size ≤ cs.length then valOf ti ((cs.drop fl).take ti.size) else none
  | _ => none
 | _ => none

def stv (ti : TI) (lk : Nat → Ob) (a x : V) : Option (Nat × Ob) :=
 match a, cellsOf x with
 | .ptr o ep ix fl, some cs => match lk o with
  | .arr ep' sz es => if ep' = ep ∧ ix < es.length ∧ cs.length = ti.size ∧ fl + cs.length ≤ (es.getD ix []).length then some (o, .arr ep' sz (es.set ix (over (es.getD ix []) fl cs))) else none
  | .var tb cs0 => if ep = 0 ∧ ix = 0 ∧ cs.length = ti.size ∧ fl + cs.length ≤ cs0.length then some (o, .var tb (over cs0 fl cs)) else none
  | _ => none
 | _, _ => none

def fillV (pl : Nat → Option (Nat × Nat)) (cs : List V) : List (Nat × V) → Option (List V)
 | [] => some cs
 | (j, v) :: rest => match pl j, cellsOf v with
  | some (off, size), some c => if c.length = size ∧ off + size ≤ cs.length then fillV pl (over cs off c) rest else none
  | _, _ => none

def places (T : Tab) (fs : List (Nat × TypeId)) (j : Nat) : Option (Nat × Nat) := (fs[j]?).map fun f => (f.1, (T f.2).size)

def iand (k : IntKind) (x y : Int) : Int := k.wrap (BitVec.ofInt k.bits x &&& BitVec.ofInt k.bits y).toNat
def ior (k : IntKind) (x y : Int) : Int := k.wrap (BitVec.ofInt k.bits x ||| BitVec.ofInt k.bits y).toNat
def ixor (k : IntKind) (x y : Int) : Int := k.wrap (BitVec.ofInt k.bits x ^^^ BitVec.ofInt k.bits y).toNat
def iandn (k : IntKind) (x y : Int) : Int := k.wrap (BitVec.ofInt k.bits x &&& ~~~ BitVec.ofInt k.bits y).toNat

def intOp (op : BinOp) (k : IntKind) (x y : Int) : Option V :=
 match op with
 | .add => some (.i k (k.wrap (x + y)))
 | .sub => some (.i k (k.wrap (x - y)))
 | .mul => some (.i k (k.wrap (x * y)))
 | .quo => if y = 0 then none else some (.i k (k.wrap (x.tdiv y)))
 | .rem => if y = 0 then none else some (.i k (x.tmod y))
 | .and => some (.i k (iand k x y))
 | .or => some (.i k (ior k x y))
 | .xor => some (.i k (ixor k x y))
 | .andNot => some (.i k (iandn k x y))
 | .eql => some (.b (decide (x = y)))
 | .neq => some (.b (!decide (x = y)))
 | .lss => some (.b (decide (x < y)))
 | .leq => some (.b (decide (x ≤ y)))
 | .gtr => some (.b (decide (y < x)))
 | .geq => some (.b (decide (y ≤ x)))
 | _ => none

def strOp (op : BinOp) (x y : List UInt8) : Option V :=
 match op with
 | .add => if x.length + y.length ≤ 9223372036854775807 then some (.s (x ++ y)) else none
 | .eql => some (.b (decide (x = y)))
 | .neq => some (.b (!decide (x = y)))
 | .lss => some (.b (Op.bytesLess x y))
 | .leq => some (.b (Op.bytesLess x y || decide (x = y)))
 | .gtr => some (.b (!(Op.bytesLess x y || decide (x = y))))
 | .geq => some (.b (!Op.bytesLess x y))
 | _ => none

def nilPtr : V → Option Bool
 | .c (.pointer none) => some true
 | .ptr .. => some false
 | .rp _ => some false
 | _ => none
def nilSlc : V → Option Bool
 | .c (.slice none 0 0) => some true
 | .ro _ (_ :: _) => some false
 | .sl _ _ _ (_ + 1) => some false
 | _ => none
def nilMap : V → Option Bool
 | .c (.map none) => some true
 | .mp _ => some false
 | _ => none
def nilFun : V → Option Bool
 | .c .nilFunc => some true
 | .fn .. => some false
 | _ => none
def nilOf (k : TK) (x : V) : Option Bool :=
 match k with
 | .ptr _ => nilPtr x
 | .slc _ => nilSlc x
 | .map _ _ => nilMap x
 | .func => nilFun x
 | _ => none

def eqCells (T : Tab) : Nat → List (Nat × TypeId) → List V → List V → Option Bool
 | _, [], [], [] => some true
 | i, (o, ft) :: fs, x :: xs, y :: ys => if o = i then match (T ft).kind, x, y with
   | .int _, .i k a, .i k' b => if k = k' then (eqCells T (i + 1) fs xs ys).map fun r => (a == b) && r else none
   | .bool, .b a, .b b => (eqCells T (i + 1) fs xs ys).map fun r => (a == b) && r
   | .string, .s a, .s b => (eqCells T (i + 1) fs xs ys).map fun r => decide (a = b) && r
   | _, _, _ => none
  else none
 | _, _, _, _ => none

def eqAgg (T : Tab) (t : TypeId) (xs ys : List V) : Option Bool := match (T t).kind with
 | .str fs => if (T t).zero.all flatC = true then eqCells T 0 fs xs ys else none
 | _ => none

def binV (T : Tab) (op : BinOp) (t : TypeId) (x y : V) : Option V :=
 match op, x, y with
 | .shl, .i k a, .i _ b => if b < 0 then none else some (.i k (k.wrap (a * 2 ^ (min b.toNat k.bits))))
 | .shr, .i k a, .i _ b => if b < 0 then none else some (.i k (a.fdiv (2 ^ (min b.toNat k.bits))))
 | _, .i k a, .i k' b => if k = k' then intOp op k a b else none
 | _, .s a, .s b => strOp op a b
 | .eql, .b a, .b b => match (T t).kind with
  | .bool => some (.b (a == b))
  | _ => none
 | .neq, .b a, .b b => match (T t).kind with
  | .bool => some (.b (!(a == b)))
  | _ => none
 | .eql, .agg [.s a], .agg [.s b] => match (T t).kind, (T t).zero with
  | .str [(0, ft)], [.s _] => match (T ft).kind with
   | .string => some (.b (decide (a = b)))
   | _ => none
  | _, _ => none
 | .neq, .agg [.s a], .agg [.s b] => match (T t).kind, (T t).zero with
  | .str [(0, ft)], [.s _] => match (T ft).kind with
   | .string => some (.b (!decide (a = b)))
   | _ => none
  | _, _ => none
 | .eql, .agg xs, .agg ys => (eqAgg T t xs ys).map .b
 | .neq, .agg xs, .agg ys => (eqAgg T t xs ys).map fun r => .b (!r)
 | .eql, x, y => match nilOf (T t).kind x, nilOf (T t).kind y with
  | some true, some r => some (.b r)
  | some false, some true => some (.b false)
  | _, _ => none
 | .neq, x, y => match nilOf (T t).kind x, nilOf (T t).kind y with
  | some true, some r => some (.b (!r))
  | some false, some true => some (.b true)
  | _, _ => none
 | _, _, _ => none

def unV (op : UnOp) (x : V) : Option V :=
 match op, x with
 | .neg, .i k n => some (.i k (k.wrap (0 - n)))
 | .not, .b x => some (.b (!x))
 | _, _ => none

def boundOf (ev : Operand → V) (most : Nat) (dflt : Nat) : Option Operand → Option Nat
 | none => some dflt
 | some x => match ev x with
  | .i _ n => if 0 ≤ n ∧ n ≤ most then some n.toNat else none
  | _ => none

def elemsOf (sz : Nat) (lk : Nat → Ob) : V → Option (List (List V))
 | .ro sz' es => if sz' = sz then some es else none
 | .sl o ep off n => match lk o with
  | .arr ep' sz' es => if ep' = ep ∧ sz' = sz ∧ off + n ≤ es.length then some ((es.drop off).take n) else none
  | .row _ ep' es => if ep' = ep ∧ 1 = sz ∧ off + n ≤ es.length then some ((es.drop off).take n) else none
  | _ => none
 | .c (.slice none 0 0) => some []
 | .z => some []
 | .s x => if sz = 1 then some (x.map fun u => [.i .u8 u.toNat]) else none
 | _ => none

def bytesOf : List (List V) → Option (List UInt8)
 | [] => some []
 | [.i .u8 n] :: r => (bytesOf r).map (UInt8.ofNat n.toNat :: ·)
 | _ => none

def offV (n : Nat) : V → Option V
 | .ptr o ep ix fl => some (.ptr o ep ix (fl + n))
 | .rp cs => some (.rp (cs.drop n))
 | _ => none

def idxV (sz : Nat) (lk : Nat → Ob) (n : Int) : V → Option V
 | .ro sz' es => if sz' = sz ∧ 0 ≤ n ∧ n < es.length then some (.rp (es.getD n.toNat [])) else none
 | .sl o ep off len => match lk o with
  | .arr ep' sz' _ => if ep' = ep ∧ sz' = sz ∧ 0 ≤ n ∧ n < len then some (.ptr o ep (off + n.toNat) 0) else none
  | _ => none
 | _ => none

def intsV : List CK → List V → Option (List Int)
 | [], [] => some []
 | .int k :: ks, .i k' n :: r => if k' = k then (intsV ks r).map (n :: ·) else none
 | .bool :: ks, .b x :: r => (intsV ks r).map ((if x then 1 else 0) :: ·)
 | _, _ => none

def keyOf (kk : KK) : V → Option (List Int)
 | .i k n => if kk = .int k then some [n] else none
 | .s u => if kk = .str then some (u.map fun b => (b.toNat : Int)) else none
 | .agg cs => match kk with
  | .ints ks => intsV ks cs
  | _ => none
 | _ => none

def intsOf (T : Tab) : Nat → List (Nat × TypeId) → Option (List CK)
 | _, [] => some []
 | i, (o, ft) :: fs => if o = i then match (T ft).kind with
   | .int k => (intsOf T (i + 1) fs).map (.int k :: ·)
   | .bool => (intsOf T (i + 1) fs).map (.bool :: ·)
   | _ => none
  else none

def kkOf (T : Tab) (kt : TypeId) : Option KK := match (T kt).kind with
 | .int k => some (.int k)
 | .string => some .str
 | .str fs => if (T kt).zero.all flatC = true then (intsOf T 0 fs).map .ints else none
 | _ => none

def roomFor (n bytes : Nat) : Prop := n ≤ 9223372036854775807 ∧ n * bytes ≤ 140737488355328
instance (n bytes : Nat) : Decidable (roomFor n bytes) := inferInstanceAs (Decidable (_ ∧ _))

def lenV : V → Option Nat
 | .ro _ es => some es.length
 | .sl _ _ _ n => some n
 | .c (.slice none 0 0) => some 0
 | .z => some 0
 | _ => none

def newOb (e : TypeId) (sz : Nat) (k : TK) (es : List (List V)) : Ob := if k = .int .u8 ∧ sz = 1 then .row e 0 es else .arr 0 sz es

def appendV (e : TypeId) (ti : TI) (lk : Nat → Ob) (nx : Nat) (s x : V) : Option (V × List (Nat × Ob)) :=
 match elemsOf ti.size lk x with
 | none => none
 | some news => match s with
  | .c (.slice none 0 0) => if roomFor news.length ti.bytes then some (.sl nx 0 0 news.length, [(nx, newOb e ti.size ti.kind news)]) else none
  | .z => if roomFor news.length ti.bytes then some (.sl nx 0 0 news.length, [(nx, newOb e ti.size ti.kind news)]) else none
  | .sl o ep off n => match lk o with
   | .arr ep' sz es => if ep' = ep ∧ sz = ti.size ∧ off + n ≤ es.length ∧ roomFor (n + news.length) ti.bytes then
     some (.sl o (ep + 1) 0 (n + news.length), [(o, .arr (ep + 1) ti.size ((es.drop off).take n ++ news))]) else none
   | .row e' ep' es => if ep' = ep ∧ e' = e ∧ 1 = ti.size ∧ off = 0 ∧ n ≤ es.length ∧ roomFor (n + news.length) ti.bytes then
     some (.sl o (ep + 1) 0 (n + news.length), [(o, .row e (ep + 1) (es.take n ++ news))]) else none
   | _ => none
  | _ => none

def copyV (ti : TI) (lk : Nat → Ob) (d x : V) : Option (V × List (Nat × Ob)) :=
 match elemsOf ti.size lk x, d with
 | some news, .sl o ep off n => match lk o with
  | .arr ep' sz es => if ep' = ep ∧ sz = ti.size ∧ off + n ≤ es.length then
    some (.i .i64 (min news.length n : Nat), [(o, .arr ep sz (es.take off ++ news.take n ++ es.drop (off + min news.length n)))]) else none
  | _ => none
 | _, _ => none

def clearV (ti : TI) (lk : Nat → Ob) (d : V) : Option (V × List (Nat × Ob)) :=
 match d with
 | .sl o ep off n => match lk o with
  | .arr ep' sz es => if ep' = ep ∧ sz = ti.size ∧ off + n ≤ es.length then
    some (.tup [], [(o, .arr ep sz (es.take off ++ List.replicate n ti.zero ++ es.drop (off + n)))]) else none
  | _ => none
 | _ => none

def minmaxV (mx : Bool) : List V → Option V
 | [.i k x, .i k' y] => if k = k' then some (.i k (if mx then (if y > x then y else x) else (if y < x then y else x))) else none
 | _ => none

def builtinV (T : Tab) (lk : Nat → Ob) (nx : Nat) (b : Builtin) (tys : List TypeId) (args : List V) : Option (V × List (Nat × Ob)) :=
 match b, tys, args with
 | .len, t :: _, [x] => match (T t).kind, x with
  | .string, .s u => some (.i .i64 (u.length : Nat), [])
  | .slc _, x => match lenV x with
   | some n => some (.i .i64 (n : Nat), [])
   | none => none
  | _, _ => none
 | .append, [t, t'], [s, x] => match (T t).kind, (T t').kind with
  | .slc e, .slc _ => if (T e).size ≠ 0 then appendV e (T e) lk nx s x else none
  | .slc e, .string => if (T e).size ≠ 0 then appendV e (T e) lk nx s x else none
  | _, _ => none
 | .copy, [t, _], [d, x] => match (T t).kind with
  | .slc e => if (T e).size ≠ 0 then copyV (T e) lk d x else none
  | _ => none
 | .clear, [t], [d] => match (T t).kind with
  | .slc e => if (T e).size ≠ 0 then clearV (T e) lk d else none
  | _ => none
 | .min, _, l => (minmaxV false l).map fun r => (r, [])
 | .max, _, l => (minmaxV true l).map fun r => (r, [])
 | _, _, _ => none

def vkind2 (T : Tab) (t : TypeId) : TK → Bool
 | .str (f :: _) => decide ((T f.2).kind = .ptr t)
 | _ => false
def vkind (T : Tab) (t : TypeId) : TK → Bool
 | .str (f :: _) => decide ((T f.2).kind = .ptr t) || vkind2 T f.2 (T f.2).kind
 | _ => false

def step (T : Tab) (op : Op) (ev : Operand → V) (lk : Nat → Ob) (nx : Nat) : Option (V × List (Nat × Ob)) :=
 match op with
 | .move x | .assign x => some (ev x, [])
 | .pick x y z => match ev x, ev y, ev z with
  | .b p, .b q, .b r => some (.b (if p then q else r), [])
  | .b true, q, _ => some (q, [])
  | .b false, _, r => some (r, [])
  | _, _, _ => none
 | .alloc t => if (T t).size ≠ 0 then some (.ptr nx 0 0 0, [(nx, if vkind T t (T t).kind = true then .var t (T t).zero else .arr 0 (T t).size [(T t).zero])]) else none
 | .box t x => match cellsOf (ev x) with
  | some cs => if (T t).size ≠ 0 ∧ cs.length = (T t).size then some (.ptr nx 0 0 0, [(nx, .arr 0 (T t).size [cs])]) else none
  | none => none
 | .build t ps => if (T t).size ≠ 0 then match (T t).kind with
  | .str fs => if fs.all fun f => (T f.2).size != 0 then (fillV (places T fs) (T t).zero (ps.toList.map fun p => (p.1, ev p.2))).map fun cs => (.agg cs, []) else none
  | .arr _ e => if (T e).size ≠ 0 then (fillV (fun j => some (j * (T e).size, (T e).size)) (T t).zero (ps.toList.map fun p => (p.1, ev p.2))).map fun cs => (.agg cs, []) else none
  | _ => none
  else none
 | .buildSlice t n ps => match (T t).kind with
  | .slc e => if (T e).size ≠ 0 ∧ n * (T e).size ≤ 16777216 then
    match fillV (fun j => if j < n then some (j * (T e).size, (T e).size) else none) ((List.replicate n (T e).zero).flatten) (ps.toList.map fun p => (p.1, ev p.2)) with
    | some cs => some (.sl nx 0 0 n, [(nx, .arr 0 (T e).size ((List.range n).map fun j => (cs.drop (j * (T e).size)).take (T e).size))])
    | none => none
   else none
  | _ => none
 | .load t x => if (T t).size ≠ 0 then (ld (T t) lk (ev x)).map fun v => (v, []) else none
 | .store t x y => if (T t).size ≠ 0 then (stv (T t) lk (ev x) (ev y)).map fun u => (.junk, [u]) else none
 | .nilCheck x => match ev x with
  | .ptr o ep ix fl => some (.ptr o ep ix fl, [])
  | .rp cs => some (.rp cs, [])
  | .fn f cap => some (.fn f cap, [])
  | .mp o => some (.mp o, [])
  | _ => none
 | .binOp op t x y _ => (binV T op t (ev x) (ev y)).map fun v => (v, [])
 | .unOp op _ x => (unV op (ev x)).map fun v => (v, [])
 | .convert src dst x => if (T src).size ≠ 0 then match (T dst).kind, ev x with
  | .int k, .i _ n => some (.i k (k.wrap n), [])
  | .string, .s u => some (.s u, [])
  | .string, x => match (T src).kind with
   | .slc e => match (T e).kind, elemsOf 1 lk x with
    | .int .u8, some es => (bytesOf es).map fun l => (.s l, [])
    | _, _ => none
   | _ => none
  | _, _ => none
  else none
 | .makeFunc (.func f) first cap => if first.size = 0 then some (.fn f (cap.toList.map ev), []) else if cap.size = 0 then some (.bm f (first.toList.map ev), []) else none
 | .makeMap t none => match (T t).kind with
  | .map kt _ => match kkOf T kt with
   | some k => some (.mp nx, [(nx, .mp k fun _ => none)])
   | none => none
  | _ => none
 | .makeSlice t l c => match (T t).kind, ev l, ev c with
  | .slc e, .i _ n, .i _ m => if (T e).size ≠ 0 ∧ 0 ≤ n ∧ n ≤ m ∧ roomFor m.toNat (T e).bytes then
    some (.sl nx 0 0 n.toNat, [(nx, .arr 0 (T e).size (List.replicate n.toNat (T e).zero))]) else none
  | _, _, _ => none
 | .slice t x lo hi mx => match (T t).kind, ev x with
  | .string, .s u => match mx, boundOf ev u.length u.length hi with
   | none, some h => match boundOf ev h 0 lo with
    | some l => some (.s ((u.drop l).take (h - l)), [])
    | none => none
   | _, _ => none
  | .slc e, .sl o ep off n => if (T e).size ≠ 0 then match mx with
   | none => match boundOf ev n n hi with
    | some h => match boundOf ev h 0 lo with
     | some l => match lk o with
      | .arr ep' sz _ => if ep' = ep ∧ sz = (T e).size then some (.sl o ep (off + l) (h - l), []) else none
      | _ => none
     | none => none
    | none => none
   | some _ => none
   else none
  | .slc e, .ro sz es => if (T e).size ≠ 0 ∧ sz = (T e).size then match mx with
   | none => match boundOf ev es.length es.length hi with
    | some h => match boundOf ev h 0 lo with
     | some l => some (.ro sz ((es.drop l).take (h - l)), [])
     | none => none
    | none => none
   | some m => match hi, boundOf ev 0 0 hi, boundOf ev 0 0 lo, boundOf ev 0 0 (some m) with
    | some _, some _, some _, some _ => some (.z, [])
    | _, _, _, _ => none
   else none
  | .slc e, .c (.slice none 0 0) => if (T e).size ≠ 0 then match mx, boundOf ev 0 0 hi, boundOf ev 0 0 lo with
   | none, some _, some _ => some (.c (.slice none 0 0), [])
   | _, _, _ => none
   else none
  | _, _ => none
 | .fieldAddr t x f => match (T t).kind with
  | .str fs => match fs[f]? with
   | some (off, ty) => if (T ty).size ≠ 0 then (offV off (ev x)).map fun v => (v, []) else none
   | none => none
  | _ => none
 | .field t x f => match (T t).kind, ev x with
  | .str fs, .agg cs => match fs[f]? with
   | some (off, ty) => if (T ty).size ≠ 0 ∧ off + (T ty).size ≤ cs.length then (valOf (T ty) ((cs.drop off).take (T ty).size)).map fun v => (v, []) else none
   | none => none
  | _, _ => none
 | .indexAddr t x ix => match (T t).kind, ev ix with
  | .slc e, .i _ n => if (T e).size ≠ 0 then (idxV (T e).size lk n (ev x)).map fun v => (v, []) else none
  | .arr len e, .i _ n => if (T e).size ≠ 0 ∧ 0 ≤ n ∧ n < len then (offV (n.toNat * (T e).size) (ev x)).map fun v => (v, []) else none
  | _, _ => none
 | .index t x ix => match (T t).kind, ev x, ev ix with
  | .arr len e, .agg cs, .i _ n => if (T e).size ≠ 0 ∧ 0 ≤ n ∧ n < len ∧ n.toNat * (T e).size + (T e).size ≤ cs.length then (valOf (T e) ((cs.drop (n.toNat * (T e).size)).take (T e).size)).map fun v => (v, []) else none
  | .string, .s u, .i _ n => if 0 ≤ n ∧ n < u.length then some (.i .u8 ((u.getD n.toNat 0).toNat), []) else none
  | _, _, _ => none
 | .lookup t x y ok => match (T t).kind with
  | .map kt et => match ev x with
   | .mp o => match lk o with
    | .mp k f => match keyOf k (ev y) with
     | some key => if (T et).size ≠ 0 ∧ kkOf T kt = some k ∧ (T et).zv.oneCell' = true then some (if ok then .tup [(f key).getD (toV (T et).zv), .b (f key).isSome] else (f key).getD (toV (T et).zv), []) else none
     | none => none
    | _ => none
   | _ => none
  | _ => none
 | .mapUpdate t x y v | .insert t x y v => match (T t).kind with
  | .map kt _ => match ev x with
   | .mp o => match lk o with
    | .mp k f => match keyOf k (ev y) with
     | some key => if kkOf T kt = some k then some (.junk, [(o, .mp k fun k' => if k' = key then some (ev v) else f k')]) else none
     | none => none
    | _ => none
   | _ => none
  | _ => none
 | .extract x j => match ev x with
  | .tup vs => (vs[j]?).map fun v => (v, [])
  | _ => none
 | .call c => match c.callee with
  | .builtin b => builtinV T lk nx b c.argTypes.toList (c.args.toList.map ev)
  | _ => none
 | _ => none

end Go.AM
end
section
namespace Go.AM
open Go

inductive DE where
 | arr (ep sz : Nat) (loc : Option (Nat × Nat))
 | mp (k : KK) (loc : Option (Nat × Nat))
 | gone

abbrev Dir := Nat → Option DE
abbrev Locs := Nat → Option (Nat × Nat)

def dirOf (m : Locs) (h : List Ob) (o : Nat) : Option DE :=
 match h.getD o .unborn with
 | .arr ep sz _ => some (.arr ep sz (m o))
 | .mp k _ => some (.mp k (m o))
 | .var _ cs => some (.arr 0 cs.length (m o))
 | .row _ ep _ => some (.arr ep 1 (m o))
 | .gone => some .gone
 | .unborn => none

def stale (ep : Nat) : DE → Prop
 | .arr ep' _ _ => ep < ep'
 | .gone => True
 | .mp _ _ => False

def most : Nat := 9223372036854775807

inductive PRel (ok : Nat → Prop) (w : World) : V → Value → Prop
 | i (k : IntKind) (n : Int) : PRel ok w (.i k n) (.int k n)
 | b (x : Bool) : PRel ok w (.b x) (.bool x)
 | s (x : ByteArray) : PRel ok w (.s x.data.toList) (.string x)
 | c (v : Value) (h : v.oneCell' = true) : PRel ok w (.c v) v
 | z (a : Option Addr) : PRel ok w .z (.slice a 0 0)
 | ro0 (sz : Nat) (a : Option Addr) (cap : Nat) : PRel ok w (.ro sz []) (.slice a 0 cap)
 | ro (sz : Nat) (es : List (List V)) (blk off cap : Nat) (us : Nat → Nat → Value)
   (hok : ok blk) (hlt : blk < w.heap.size) (hsz : ∀ x ∈ es, x.length = sz) (hcap : es.length ≤ cap) (hm : es.length ≤ most)
   (hc : ∀ i j, i < es.length → j < sz → w.cell? ⟨blk, off + i * sz + j, none⟩ = some (us i j))
   (hr : ∀ (i j : Nat) (x : V), (es[i]?).bind (fun l => l[j]?) = some x → PRel ok w x (us i j)) :
   PRel ok w (.ro sz es) (.slice (some ⟨blk, off, none⟩) es.length cap)
 | rp (cs : List V) (blk off : Nat) (us : Nat → Value) (hok : ok blk) (hlt : blk < w.heap.size)
   (hc : ∀ j, j < cs.length → w.cell? ⟨blk, off + j, none⟩ = some (us j))
   (hr : ∀ j x, cs[j]? = some x → PRel ok w x (us j)) :
   PRel ok w (.rp cs) (.pointer (some ⟨blk, off, none⟩))

theorem PRel.one {ok : Nat → Prop} {w : World} {x : V} {u : Value} (h : PRel ok w x u) : u.oneCell' = true := by
 cases h <;> first | rfl | assumption

theorem PRel.mono {ok ok' : Nat → Prop} {w w' : World} {x : V} {u : Value} (h : PRel ok w x u)
  (hs : w.heap.size ≤ w'.heap.size) (hk : ∀ b, b < w.heap.size → ok b → ok' b ∧ w'.heap[b]? = w.heap[b]?) : PRel ok' w' x u := by
 induction h with
 | i k n => exact .i k n
 | b x => exact .b x
 | s x => exact .s x
 | c v h => exact .c v h
 | z a => exact .z a
 | ro0 sz a cap => exact .ro0 sz a cap
 | ro sz es blk off cap us hok hlt hsz hcap hm hc hr ih =>
  obtain ⟨h1, h2⟩ := hk blk hlt hok
  exact .ro sz es blk off cap us h1 (Nat.lt_of_lt_of_le hlt hs) hsz hcap hm (fun i j hi hj => by rw [World.cell?_of_block (w := w) h2]; exact hc i j hi hj) ih
 | rp cs blk off us hok hlt hc hr ih =>
  obtain ⟨h1, h2⟩ := hk blk hlt hok
  exact .rp cs blk off us h1 (Nat.lt_of_lt_of_le hlt hs) (fun j hj => by rw [World.cell?_of_block (w := w) h2]; exact hc j hj) ih

inductive VRel (D : Dir) (ok : Nat → Prop) (w : World) : V → Value → Prop
 | pure {x : V} {u : Value} (h : PRel ok w x u) : VRel D ok w x u
 | junk (u : Value) : VRel D ok w .junk u
 | agg (cs : List V) (us : List Value) (hl : us.length = cs.length) (h1 : ∀ u ∈ us, u.oneCell' = true)
   (hr : ∀ (j : Nat) (x : V) (u : Value), cs[j]? = some x → us[j]? = some u → VRel D ok w x u) : VRel D ok w (.agg cs) (.agg us.toArray)
 | tup (cs : List V) (us : List Value) (hl : us.length = cs.length)
   (hr : ∀ (j : Nat) (x : V) (u : Value), cs[j]? = some x → us[j]? = some u → VRel D ok w x u) : VRel D ok w (.tup cs) (.tuple us.toArray)
 | fn (f : FuncId) (cs : List V) (us : List Value) (hl : us.length = cs.length)
   (hr : ∀ (j : Nat) (x : V) (u : Value), cs[j]? = some x → us[j]? = some u → VRel D ok w x u) : VRel D ok w (.fn f cs) (.func (.func f) #[] us.toArray)
 | bm (f : FuncId) (cs : List V) (us : List Value) (hl : us.length = cs.length)
   (hr : ∀ (j : Nat) (x : V) (u : Value), cs[j]? = some x → us[j]? = some u → VRel D ok w x u) : VRel D ok w (.bm f cs) (.func (.func f) us.toArray #[])
 | ptr (o ep ix fl sz blk off : Nat) (hD : D o = some (.arr ep sz (some (blk, off)))) :
   VRel D ok w (.ptr o ep ix fl) (.pointer (some ⟨blk, off + ix * sz + fl, none⟩))
 | ptrS (o ep ix fl : Nat) (d : DE) (a : Addr) (hD : D o = some d) (hs : stale ep d) : VRel D ok w (.ptr o ep ix fl) (.pointer (some a))
 | sl (o ep off n sz blk o0 cap : Nat) (cl : Array Value) (e : TypeId) (fr : Nat × Nat) (hD : D o = some (.arr ep sz (some (blk, o0))))
   (hn : n ≤ cap) (hb : w.heap[blk]? = some (.cells cl e fr)) (hf : o0 + (off + cap) * sz ≤ cl.size) :
   VRel D ok w (.sl o ep off n) (.slice (some ⟨blk, o0 + off * sz, none⟩) n cap)
 | sl0 (o ep off sz : Nat) (l : Option (Nat × Nat)) (a : Option Addr) (hD : D o = some (.arr ep sz l)) : VRel D ok w (.sl o ep off 0) (.slice a 0 0)
 | slS (o ep off n cap : Nat) (d : DE) (a : Option Addr) (hD : D o = some d) (hs : stale ep d) (ha : n ≠ 0 → a.isSome = true) : VRel D ok w (.sl o ep off n) (.slice a n cap)
 | mp (o : Nat) (k : KK) (blk off : Nat) (hD : D o = some (.mp k (some (blk, off)))) : VRel D ok w (.mp o) (.map (some blk))
 | mpS (o : Nat) (b : Nat) (hD : D o = some .gone) : VRel D ok w (.mp o) (.map (some b))

inductive DLe : DE → DE → Prop
 | refl (d : DE) : DLe d d
 | gone (d : DE) : DLe d .gone
 | later (ep sz : Nat) (l : Option (Nat × Nat)) (ep' sz' : Nat) (l' : Option (Nat × Nat)) (h : ep < ep') : DLe (.arr ep sz l) (.arr ep' sz' l')

theorem DLe.stale {d d' : DE} {ep : Nat} (h : DLe d d') (hs : AM.stale ep d) : AM.stale ep d' := by
 cases h with
 | refl => exact hs
 | gone => trivial
 | later ep1 sz l ep' sz' l' h => exact Nat.lt_trans (show ep < ep1 from hs) h

structure WExt (S : Nat → Prop) (w w' : World) : Prop where
 os : w'.os = w.os
 tape : w'.tape = w.tape
 output : w'.output = w.output
 size : w.heap.size ≤ w'.heap.size
 block : ∀ b, b < w.heap.size → ¬ S b → w'.heap[b]? = w.heap[b]?
 shape : ∀ (b : Nat) (c : Array Value) (e : TypeId) (fr : Nat × Nat), w.heap[b]? = some (Obj.cells c e fr) → ∃ (c' : Array Value) (fr' : Nat × Nat), w'.heap[b]? = some (Obj.cells c' e fr') ∧ c'.size = c.size

theorem WExt.refl (S : Nat → Prop) (w : World) : WExt S w w := ⟨rfl, rfl, rfl, Nat.le_refl _, fun _ _ _ => rfl, fun _ c _ _ h => ⟨c, _, h, rfl⟩⟩

theorem WExt.trans {S : Nat → Prop} {a b c : World} (h : WExt S a b) (k : WExt S b c) : WExt S a c :=
 ⟨k.os.trans h.os, k.tape.trans h.tape, k.output.trans h.output, Nat.le_trans h.size k.size,
  fun i hi hS => (k.block i (Nat.lt_of_lt_of_le hi h.size) hS).trans (h.block i hi hS),
  fun i cl e fr hc => by
   obtain ⟨c1, f1, h1, s1⟩ := h.shape i cl e fr hc
   obtain ⟨c2, f2, h2, s2⟩ := k.shape i c1 e f1 h1
   exact ⟨c2, f2, h2, s2.trans s1⟩⟩

theorem WExt.trans' {S S' : Nat → Prop} {a b c : World} (h : WExt S a b) (k : WExt S' b c) (hs : ∀ x, x < a.heap.size → S' x → S x) : WExt S a c :=
 ⟨k.os.trans h.os, k.tape.trans h.tape, k.output.trans h.output, Nat.le_trans h.size k.size,
  fun i hi hS => (k.block i (Nat.lt_of_lt_of_le hi h.size) (fun h' => hS (hs i hi h'))).trans (h.block i hi hS),
  fun i cl e fr hc => by
   obtain ⟨c1, f1, h1, s1⟩ := h.shape i cl e fr hc
   obtain ⟨c2, f2, h2, s2⟩ := k.shape i c1 e f1 h1
   exact ⟨c2, f2, h2, s2.trans s1⟩⟩

theorem WExt.mono {S S' : Nat → Prop} {a b : World} (h : WExt S a b) (hS : ∀ x, x < a.heap.size → S x → S' x) : WExt S' a b :=
 ⟨h.os, h.tape, h.output, h.size, fun i hi hn => h.block i hi fun hs => hn (hS i hi hs), h.shape⟩

theorem WExt.drew (S : Nat → Prop) (w : World) : WExt S w w.drew := ⟨rfl, rfl, rfl, Nat.le_refl _, fun _ _ _ => rfl, fun _ c _ _ h => ⟨c, _, h, rfl⟩⟩

theorem WExt.alloc (S : Nat → Prop) (w : World) (o : Obj) : WExt S w (w.alloc o) :=
 ⟨rfl, rfl, rfl, by simp, fun b hb _ => heap_alloc_old w o b hb, fun b c e fr h => ⟨c, fr, by rw [heap_alloc_old w o b (Array.getElem?_eq_some_iff.1 h).1]; exact h, rfl⟩⟩

theorem VRel.mono {D D' : Dir} {ok ok' : Nat → Prop} {w w' : World} {x : V} {u : Value} (h : VRel D ok w x u)
  (hD : ∀ o d, D o = some d → ∃ d', D' o = some d' ∧ DLe d d')
  (hs : w.heap.size ≤ w'.heap.size) (hk : ∀ b, b < w.heap.size → ok b → ok' b ∧ w'.heap[b]? = w.heap[b]?)
  (hsh : ∀ (b : Nat) (c : Array Value) (e : TypeId) (fr : Nat × Nat), w.heap[b]? = some (Obj.cells c e fr) → ∃ (c' : Array Value) (fr' : Nat × Nat), w'.heap[b]? = some (Obj.cells c' e fr') ∧ c'.size = c.size) : VRel D' ok' w' x u := by
 induction h with
 | pure h => exact .pure (h.mono hs hk)
 | junk u => exact .junk u
 | agg cs us hl h1 hr ih => exact .agg cs us hl h1 fun j x u hx hu => ih j x u hx hu
 | tup cs us hl hr ih => exact .tup cs us hl fun j x u hx hu => ih j x u hx hu
 | fn f cs us hl hr ih => exact .fn f cs us hl fun j x u hx hu => ih j x u hx hu
 | bm f cs us hl hr ih => exact .bm f cs us hl fun j x u hx hu => ih j x u hx hu
 | ptr o ep ix fl sz blk off h =>
  obtain ⟨d', h', hle⟩ := hD o _ h
  cases hle with
  | refl => exact .ptr o ep ix fl sz blk off h'
  | gone => exact .ptrS o ep ix fl _ _ h' trivial
  | later _ _ _ ep' sz' l' hlt => exact .ptrS o ep ix fl _ _ h' hlt
 | ptrS o ep ix fl d u h hst =>
  obtain ⟨d', h', hle⟩ := hD o _ h
  exact .ptrS o ep ix fl d' u h' (hle.stale hst)
 | sl o ep off n sz blk o0 cap cl e fr h hn hb hf =>
  obtain ⟨d', h', hle⟩ := hD o _ h
  cases hle with
  | refl =>
   obtain ⟨c', fr', hc', hsz⟩ := hsh blk cl e fr hb
   exact .sl o ep off n sz blk o0 cap c' e fr' h' hn hc' (by rw [hsz]; exact hf)
  | gone => exact .slS o ep off n _ _ _ h' trivial (fun _ => rfl)
  | later _ _ _ ep' sz' l' hlt => exact .slS o ep off n _ _ _ h' hlt (fun _ => rfl)
 | sl0 o ep off sz l a h =>
  obtain ⟨d', h', hle⟩ := hD o _ h
  cases hle with
  | refl => exact .sl0 o ep off sz l a h'
  | gone => exact .slS o ep off 0 _ _ _ h' trivial (fun h => absurd rfl h)
  | later _ _ _ ep' sz' l' hlt => exact .slS o ep off 0 _ _ _ h' hlt (fun h => absurd rfl h)
 | slS o ep off n cap d a h hst ha =>
  obtain ⟨d', h', hle⟩ := hD o _ h
  exact .slS o ep off n cap d' a h' (hle.stale hst) ha
 | mp o k blk off h =>
  obtain ⟨d', h', hle⟩ := hD o _ h
  cases hle with
  | refl => exact .mp o k blk off h'
  | gone => exact .mpS o _ h'
 | mpS o b h =>
  obtain ⟨d', h', hle⟩ := hD o _ h
  cases hle with
  | refl => exact .mpS o b h'
  | gone => exact .mpS o b h'

def ckV : CK → Int → Value
 | .int k, n => .int k n
 | .bool, n => .bool (decide (n = 1))
def ckOK : CK → Int → Prop
 | .int _, _ => True
 | .bool, n => n = 0 ∨ n = 1
def cksOK : List CK → List Int → Prop
 | [], [] => True
 | k :: ks, n :: c => ckOK k n ∧ cksOK ks c
 | _, _ => False

def keyR : KK → List Int → Value → Prop
 | .int k, c, v => ∃ n, c = [n] ∧ v = .int k n
 | .str, c, v => ∃ b : ByteArray, c = b.data.toList.map (fun x => (x.toNat : Int)) ∧ v = .string b
 | .ints ks, c, v => cksOK ks c ∧ v = .agg (List.zipWith ckV ks c).toArray

structure MRel (D : Dir) (ok : Nat → Prop) (w : World) (k : KK) (es : List MapEntry) (f : List Int → Option V) : Prop where
 keys : ∀ e ∈ es, ∃ c, keyR k c e.key
 nodup : es.Pairwise fun e e' => ∀ c, keyR k c e.key → ¬ keyR k c e'.key
 has : ∀ c v, f c = some v → ∃ e ∈ es, keyR k c e.key ∧ VRel D ok w v e.val
 none : ∀ c, f c = none → ∀ e ∈ es, ¬ keyR k c e.key

def OKo (D : Dir) (ok : Nat → Prop) (w : World) (loc : Option (Nat × Nat)) : Ob → Prop
 | .arr _ sz es => (∀ x ∈ es, x.length = sz) ∧ sz ≠ 0 ∧ es.length ≤ most ∧ match loc with
  | none => es = []
  | some (blk, off) => ∃ (c : Array Value) (e : TypeId), w.heap[blk]? = some (Obj.cells c e (0, 0)) ∧ off + es.length * sz ≤ c.size ∧
    ∀ (i j : Nat) (x : V), (es[i]?).bind (fun l => l[j]?) = some x → ∃ u, c[off + i * sz + j]? = some u ∧ u.oneCell' = true ∧ VRel D ok w x u
 | .mp k f => ∃ blk es clock, loc = some (blk, 0) ∧ w.heap[blk]? = some (.map es clock) ∧ MRel D ok w k es.toList f
 | .row e _ es => (∀ x ∈ es, x.length = 1) ∧ es.length ≤ most ∧ match loc with
  | none => es = []
  | some (blk, off) => off = 0 ∧ ∃ (c : Array Value), w.heap[blk]? = some (Obj.cells c e (0, 0)) ∧ off + es.length * 1 ≤ c.size ∧
    ∀ (i j : Nat) (x : V), (es[i]?).bind (fun l => l[j]?) = some x → ∃ u, c[off + i * 1 + j]? = some u ∧ u.oneCell' = true ∧ VRel D ok w x u
 | .var t cs => ∃ (blk : Nat) (c : Array Value), loc = some (blk, 0) ∧ w.heap[blk]? = some (.cells c t (0, 0)) ∧ c.size = cs.length ∧ cs ≠ [] ∧ ∀ (j : Nat) (x : V), cs[j]? = some x → ∃ u, c[j]? = some u ∧ u.oneCell' = true ∧ VRel D ok w x u
 | .gone => True
 | .unborn => True

def live : Ob → Prop
 | .arr .. => True
 | .mp .. => True
 | .var .. => True
 | .row .. => True
 | _ => False

theorem DLe.trans {a b c : DE} (h : DLe a b) (k : DLe b c) : DLe a c := by
 cases k with
 | refl => exact h
 | gone => exact .gone a
 | later ep sz l ep' sz' l' hlt =>
  cases h with
  | refl => exact .later _ _ _ _ _ _ hlt
  | later ep0 sz0 l0 _ _ _ h0 => exact .later _ _ _ _ _ _ (Nat.lt_trans h0 hlt)

structure Env where
 w0 : World
 own : Nat → Prop
 ok : Nat → Prop
 d0 : Dir
 df : List Deferred

def okc (E : Env) (m : Locs) (h : List Ob) (b : Nat) : Prop :=
 (E.ok b ∨ E.w0.heap.size ≤ b) ∧ ∀ o blk off, live (h.getD o .unborn) → m o = some (blk, off) → blk ≠ b

def DE.blk : DE → Option Nat
 | .arr _ _ (some (b, _)) => some b
 | .mp _ (some (b, _)) => some b
 | _ => none

def d0blk (E : Env) (o b : Nat) : Prop := ∃ d, E.d0 o = some d ∧ d.blk = some b

structure HRel (E : Env) (m : Locs) (h : List Ob) (w : World) : Prop where
 ext : WExt E.own E.w0 w
 blk : ∀ o blk off, live (h.getD o .unborn) → m o = some (blk, off) → (E.own blk ∨ E.w0.heap.size ≤ blk) ∧ blk < w.heap.size
 inj : ∀ o o' blk off off', live (h.getD o .unborn) → live (h.getD o' .unborn) → m o = some (blk, off) → m o' = some (blk, off') → o = o'
 obs : ∀ o, OKo (dirOf m h) (okc E m h) w (m o) (h.getD o .unborn)
 new : ∀ o blk off, live (h.getD o .unborn) → m o = some (blk, off) → d0blk E o blk ∨ E.w0.heap.size ≤ blk
 dle : ∀ o d, E.d0 o = some d → ∃ d', dirOf m h o = some d' ∧ DLe d d'

structure RelM (E : Env) (m : Locs) (σ : St) (a : Act) (w : World) : Prop extends HRel E m σ.h w where
 tsize : a.tmps.size = σ.t.length
 defers : a.defers = E.df
 tmps : ∀ t, VRel (dirOf m σ.h) (okc E m σ.h) w (σ.t.getD t .junk) (a.tmps.getD t undef)

def Rel (E : Env) (σ : St) (a : Act) (w : World) : Prop := ∃ m, RelM E m σ a w

end Go.AM
end
section
namespace Go.AM
open Go

theorem MRel.mono {D D' : Dir} {ok ok' : Nat → Prop} {w w' : World} {k : KK} {es : List MapEntry} {f : List Int → Option V} (h : MRel D ok w k es f)
  (hv : ∀ x u, VRel D ok w x u → VRel D' ok' w' x u) : MRel D' ok' w' k es f :=
 ⟨h.keys, h.nodup, fun n v hf => let ⟨e, he, hk, hr⟩ := h.has n v hf; ⟨e, he, hk, hv _ _ hr⟩, h.none⟩

theorem OKo.mono {D D' : Dir} {ok ok' : Nat → Prop} {w w' : World} {loc : Option (Nat × Nat)} {ob : Ob} (h : OKo D ok w loc ob)
  (hv : ∀ x u, VRel D ok w x u → VRel D' ok' w' x u)
  (hb : ∀ blk off, loc = some (blk, off) → live ob → w'.heap[blk]? = w.heap[blk]?) : OKo D' ok' w' loc ob := by
 cases ob with
 | arr ep sz es =>
  obtain ⟨h1, h2, h2', h3⟩ := h
  refine ⟨h1, h2, h2', ?_⟩
  cases loc with
  | none => exact h3
  | some l =>
   obtain ⟨blk, off⟩ := l
   obtain ⟨c, e, hc, hsz, hcs⟩ := h3
   refine ⟨c, e, by rw [hb blk off rfl trivial]; exact hc, hsz, fun i j x hx => ?_⟩
   obtain ⟨u, h4, h5, h6⟩ := hcs i j x hx
   exact ⟨u, h4, h5, hv _ _ h6⟩
 | mp k f =>
  obtain ⟨blk, es, clock, rfl, hc, hm⟩ := h
  exact ⟨blk, es, clock, rfl, by rw [hb blk 0 rfl trivial]; exact hc, hm.mono hv⟩
 | row e ep es =>
  obtain ⟨h1, h2, h3⟩ := h
  refine ⟨h1, h2, ?_⟩
  cases loc with
  | none => exact h3
  | some l =>
   obtain ⟨blk, off⟩ := l
   obtain ⟨h0, c, hc, hsz, hcs⟩ := h3
   refine ⟨h0, c, by rw [hb blk off rfl trivial]; exact hc, hsz, fun i j x hx => ?_⟩
   obtain ⟨u, h4, h5, h6⟩ := hcs i j x hx
   exact ⟨u, h4, h5, hv _ _ h6⟩
 | var t cs =>
  obtain ⟨blk, c, rfl, hc, hsz, hne, hcs⟩ := h
  refine ⟨blk, c, rfl, by rw [hb blk 0 rfl trivial]; exact hc, hsz, hne, fun j x hx => ?_⟩
  obtain ⟨u, h4, h5, h6⟩ := hcs j x hx
  exact ⟨u, h4, h5, hv _ _ h6⟩
 | gone => trivial
 | unborn => trivial

def St.put (σ : St) (dst : Option Tmp) (v : V) : St :=
 match dst with
 | some d => { σ with t := σ.t.set d v }
 | none => σ

theorem RelM.put {E : Env} {m : Locs} {σ : St} {a : Act} {w : World} (R : RelM E m σ a w) (dst : Option Tmp) {v : V} {u : Value}
  (hv : VRel (dirOf m σ.h) (okc E m σ.h) w v u) : RelM E m (σ.put dst v) (a.put dst u) w := by
 cases dst with
 | none => exact R
 | some d =>
  refine { toHRel := R.toHRel, tsize := ?_, defers := R.defers, tmps := fun t => ?_ }
  ·simp [St.put, Act.put, R.tsize]
  ·show VRel _ _ _ ((σ.t.set d v).getD t .junk) ((a.tmps.setIfInBounds d u).getD t undef)
   by_cases ht : d = t
   ·subst ht
    by_cases hd : d < σ.t.length
    ·have h2 : d < a.tmps.size := by rw [R.tsize]; exact hd
     simp [List.getD, hd, h2]
     exact hv
    ·have h2 : ¬ d < a.tmps.size := by rw [R.tsize]; exact hd
     simp [List.getD, hd]
     exact .junk _
   ·have := R.tmps t
    simpa [List.getD, List.getElem?_set_ne ht, Array.getElem?_setIfInBounds_ne ht, St.put] using this

def setOb (h : List Ob) (o : Nat) (ob : Ob) : List Ob :=
 if o < h.length then h.set o ob else h ++ List.replicate (o - h.length) .unborn ++ [ob]

theorem getD_setOb (h : List Ob) (o : Nat) (ob : Ob) (x : Nat) : (setOb h o ob).getD x .unborn = if x = o then ob else h.getD x .unborn := by
 unfold setOb
 split
 ·rename_i hlt
  by_cases hx : x = o
  ·subst hx; simp [List.getD, hlt]
  ·simp [List.getD, List.getElem?_set_ne (Ne.symm hx), hx]
 ·rename_i hge
  have hge' : h.length ≤ o := Nat.le_of_not_lt hge
  simp only [List.getD, List.append_assoc, List.getElem?_append, List.length_replicate, List.getElem?_replicate]
  by_cases hx : x = o
  ·subst hx
   rw [if_neg (by omega), if_neg (by omega)]
   simp
  ·rw [if_neg hx]
   by_cases h1 : x < h.length
   ·rw [if_pos h1]
   ·rw [if_neg h1, List.getElem?_eq_none (by omega : h.length ≤ x)]
    by_cases h2 : x - h.length < o - h.length
    ·rw [if_pos h2, if_pos h2]; rfl
    ·rw [if_neg h2]
     have : x - h.length - (o - h.length) ≠ 0 := by omega
     rw [List.getElem?_eq_none (by simp; omega)]

def deOf (loc : Option (Nat × Nat)) : Ob → Option DE
 | .arr ep sz _ => some (.arr ep sz loc)
 | .mp k _ => some (.mp k loc)
 | .var _ cs => some (.arr 0 cs.length loc)
 | .row _ ep _ => some (.arr ep 1 loc)
 | .gone => some .gone
 | .unborn => none

theorem dirOf_eq (m : Locs) (h : List Ob) (o : Nat) : dirOf m h o = deOf (m o) (h.getD o .unborn) := by
 unfold dirOf deOf; split <;> simp_all

theorem HRel.set1 {E : Env} {m : Locs} {h : List Ob} {w : World} (R : HRel E m h w) {h' : List Ob} {o : Nat} {ob' : Ob} {loc' : Option (Nat × Nat)} {w' : World}
  (hh : ∀ x, h'.getD x .unborn = if x = o then ob' else h.getD x .unborn)
  (hx : WExt (fun b => ∃ off, live (h.getD o .unborn) ∧ m o = some (b, off)) w w')
  (hd : ∀ d, deOf (m o) (h.getD o .unborn) = some d → ∃ d', deOf loc' ob' = some d' ∧ DLe d d')
  (hloc : ∀ blk off, loc' = some (blk, off) → live ob' → ((live (h.getD o .unborn) ∧ ∃ off', m o = some (blk, off')) ∨ (w.heap.size ≤ blk ∧ blk < w'.heap.size)))
  (hob : ∀ D' ok', (∀ x u, VRel (dirOf m h) (okc E m h) w x u → VRel D' ok' w' x u) → D' o = deOf loc' ob' → OKo D' ok' w' loc' ob') :
  HRel E (fun x => if x = o then loc' else m x) h' w' ∧
   (∀ x u, VRel (dirOf m h) (okc E m h) w x u → VRel (dirOf (fun x => if x = o then loc' else m x) h') (okc E (fun x => if x = o then loc' else m x) h') w' x u) := by
 have hS : ∀ b, b < w.heap.size → okc E m h b → ¬ (∃ off, live (h.getD o .unborn) ∧ m o = some (b, off)) := by
  rintro b _ hb ⟨off, hl, hm⟩
  exact hb.2 o b off hl hm rfl
 have hdir : ∀ o' d, dirOf m h o' = some d → ∃ d', dirOf (fun x => if x = o then loc' else m x) h' o' = some d' ∧ DLe d d' := by
  intro o' d hd'
  rw [dirOf_eq] at hd' ⊢
  rw [hh o']
  by_cases ho : o' = o
  ·subst ho
   simp only [if_true]
   exact hd d hd'
  ·simp only [if_neg ho]
   exact ⟨d, hd', .refl d⟩
 have hmono : ∀ x u, VRel (dirOf m h) (okc E m h) w x u → VRel (dirOf (fun x => if x = o then loc' else m x) h') (okc E (fun x => if x = o then loc' else m x) h') w' x u := by
  intro x u hv
  refine hv.mono hdir hx.size (fun b hb hk => ?_) hx.shape
  ·refine ⟨⟨hk.1, fun o' blk off hl hm => ?_⟩, hx.block b hb (hS b hb hk)⟩
   rw [hh o'] at hl
   by_cases ho : o' = o
   ·subst ho
    simp only [if_true] at hl hm
    rcases hloc blk off hm hl with ⟨hl0, off', hm0⟩ | ⟨hge, _⟩
    ·exact hk.2 o' blk off' hl0 hm0
    ·omega
   ·simp only [if_neg ho] at hl hm
    exact hk.2 o' blk off hl hm
 refine ⟨⟨?_, ?_, ?_, ?_, ?_, ?_⟩, hmono⟩
 ·refine R.ext.trans' hx ?_
  rintro b hb ⟨off, hl, hm⟩
  rcases (R.blk o b off hl hm).1 with h1 | h1
  ·exact h1
  ·omega
 ·intro o' blk off hl hm
  rw [hh o'] at hl
  by_cases ho : o' = o
  ·subst ho
   simp only [if_true] at hl hm
   rcases hloc blk off hm hl with ⟨hl0, off', hm0⟩ | ⟨hge, hlt⟩
   ·obtain ⟨h1, h2⟩ := R.blk o' blk off' hl0 hm0
    exact ⟨h1, Nat.lt_of_lt_of_le h2 hx.size⟩
   ·exact ⟨.inr (Nat.le_trans R.ext.size hge), hlt⟩
  ·simp only [if_neg ho] at hl hm
   obtain ⟨h1, h2⟩ := R.blk o' blk off hl hm
   exact ⟨h1, Nat.lt_of_lt_of_le h2 hx.size⟩
 ·have key : ∀ o1 blk off off1, o1 ≠ o → live ob' → loc' = some (blk, off) → live (h.getD o1 .unborn) → m o1 = some (blk, off1) → False := by
   intro o1 blk off off1 hne hl hm hl1 hm1
   rcases hloc blk off hm hl with ⟨hl0, off', hm0⟩ | ⟨hge, _⟩
   ·exact hne (R.inj o1 o blk off1 off' hl1 hl0 hm1 hm0)
   ·have := (R.blk o1 blk off1 hl1 hm1).2
    omega
  intro o1 o2 blk off1 off2 hl1 hl2 hm1 hm2
  rw [hh o1] at hl1
  rw [hh o2] at hl2
  by_cases h1 : o1 = o
  ·by_cases h2 : o2 = o
   ·rw [h1, h2]
   ·simp only [if_pos h1, if_neg h2] at hl1 hl2 hm1 hm2
    exact (key o2 blk off1 off2 h2 hl1 hm1 hl2 hm2).elim
  ·by_cases h2 : o2 = o
   ·simp only [if_pos h2, if_neg h1] at hl1 hl2 hm1 hm2
    exact (key o1 blk off2 off1 h1 hl2 hm2 hl1 hm1).elim
   ·simp only [if_neg h1, if_neg h2] at hl1 hl2 hm1 hm2
    exact R.inj o1 o2 blk off1 off2 hl1 hl2 hm1 hm2
 ·intro o'
  rw [hh o']
  by_cases ho : o' = o
  ·simp only [if_pos ho]
   exact hob _ _ hmono (by rw [dirOf_eq, hh o]; simp)
  ·simp only [if_neg ho]
   refine (R.obs o').mono hmono fun blk off hm hl => ?_
   obtain ⟨_, h2⟩ := R.blk o' blk off hl hm
   refine hx.block blk h2 ?_
   rintro ⟨off1, hl1, hm1⟩
   exact ho (R.inj o' o blk off off1 hl hl1 hm hm1)
 ·intro o' blk off hl hm
  rw [hh o'] at hl
  by_cases ho : o' = o
  ·subst ho
   simp only [if_true] at hl hm
   rcases hloc blk off hm hl with ⟨hl0, off', hm0⟩ | ⟨hge, _⟩
   ·exact R.new o' blk off' hl0 hm0
   ·exact .inr (Nat.le_trans R.ext.size hge)
  ·simp only [if_neg ho] at hl hm
   exact R.new o' blk off hl hm
 ·intro o' d hd'
  obtain ⟨d1, h1, h2⟩ := R.dle o' d hd'
  obtain ⟨d2, h3, h4⟩ := hdir o' d1 h1
  exact ⟨d2, h3, h2.trans h4⟩

theorem RelM.turn {E : Env} {m m' : Locs} {σ : St} {a : Act} {w w' : World} (R : RelM E m σ a w) {h' : List Ob} (H : HRel E m' h' w')
  (hv : ∀ x u, VRel (dirOf m σ.h) (okc E m σ.h) w x u → VRel (dirOf m' h') (okc E m' h') w' x u) : RelM E m' { σ with h := h' } a w' :=
 { toHRel := H, tsize := R.tsize, defers := R.defers, tmps := fun t => hv _ _ (R.tmps t) }

theorem toV_rel {D : Dir} {ok : Nat → Prop} {w : World} (v : Value) : VRel D ok w (toV v) v := by
 cases v with
 | bool x => exact .pure (.b _)
 | int k n => exact .pure (.i _ _)
 | string x => exact .pure (.s _)
 | func fn x y =>
  cases fn with
  | func f =>
   show VRel D ok w (if x.size = 0 ∧ y.size = 0 then .fn f [] else .junk) _
   split
   ·rename_i h
    obtain rfl : x = #[] := Array.eq_empty_of_size_eq_zero h.1
    obtain rfl : y = #[] := Array.eq_empty_of_size_eq_zero h.2
    exact .fn f [] [] rfl (fun j x u hx => by simp at hx)
   ·exact .junk _
  | _ => exact .junk _
 | agg x => exact .junk _
 | tuple x => exact .junk _
 | _ => exact .pure (.c _ rfl)

theorem RelM.ev {E : Env} {m : Locs} {σ : St} {a : Act} {w : World} (R : RelM E m σ a w) (x : Operand) :
  VRel (dirOf m σ.h) (okc E m σ.h) w (σ.ev x) (a.eval x) := by
 cases x with
 | tmp t => exact R.tmps t
 | const v => exact toV_rel v
 | func f => exact .fn f [] [] rfl (fun j x u hx => by simp at hx)
 | global g => exact .junk _

end Go.AM
end
section
namespace Go.AM
open Go

section
variable {P : Program} {T : Tab}

theorem TOK.get (hT : TOK P T) {t : TypeId} (h : (T t).size ≠ 0) : ∃ i d, P.info? t = some i ∧ i.zero = some (T t).zv ∧ i.size = (T t).size ∧ i.bytes = (T t).bytes ∧ P.underlying t = some d ∧ TK.of d = (T t).kind := by
 rcases hT t with ⟨h0, _⟩ | ⟨_, h1, h2, _⟩
 ·exact absurd h0 h
 ·cases hi : P.info? t with
  | none => rw [hi] at h1; cases h1
  | some i =>
   rw [hi] at h1
   cases hd : P.underlying t with
   | none => rw [hd] at h2; cases h2
   | some d =>
    rw [hd] at h2
    simp only [Option.map_some, Option.some.injEq, Prod.mk.injEq] at h1 h2
    exact ⟨i, d, rfl, h1.1, h1.2.1, h1.2.2, rfl, h2⟩

theorem TOK.cells (hT : TOK P T) {t : TypeId} (h : (T t).size ≠ 0) : ∀ u ∈ (T t).zv.cells.toList, u.oneCell' = true := by
 rcases hT t with ⟨h0, _⟩ | ⟨_, _, _, h3, _⟩
 ·exact absurd h0 h
 ·intro u hu
  exact List.all_eq_true.1 h3 u hu

theorem TOK.zlen (hT : TOK P T) {t : TypeId} (h : (T t).size ≠ 0) : (T t).zero.length = (T t).size := by
 rcases hT t with ⟨h0, _⟩ | ⟨_, _, _, _, h3, _⟩
 ·exact absurd h0 h
 ·simpa [TI.zero] using h3

theorem TOK.kind (hT : TOK P T) {t : TypeId} (h : (T t).kind ≠ .other) : ∃ d, P.underlying t = some d ∧ TK.of d = (T t).kind := by
 rcases hT t with ⟨_, h0⟩ | ⟨h0, _⟩
 ·exact absurd h0 h
 ·obtain ⟨_, d, _, _, _, _, h1, h2⟩ := hT.get h0
  exact ⟨d, h1, h2⟩

theorem TOK.slc (hT : TOK P T) {t e : TypeId} (h : (T t).kind = .slc e) : P.underlying t = some (.slice e) := by
 obtain ⟨d, h1, h2⟩ := hT.kind (t := t) (by rw [h]; intro h; cases h)
 rw [h] at h2
 cases d <;> simp [TK.of] at h2
 subst h2; exact h1

theorem TOK.str (hT : TOK P T) {t : TypeId} {fs : List (Nat × TypeId)} (h : (T t).kind = .str fs) : ∃ fields : Array Field, P.underlying t = some (.struct fields) ∧ fields.toList.map (fun f => (f.offset, f.type)) = fs := by
 obtain ⟨d, h1, h2⟩ := hT.kind (t := t) (by rw [h]; intro h; cases h)
 rw [h] at h2
 cases d <;> simp [TK.of] at h2
 exact ⟨_, h1, h2⟩

theorem TOK.arr (hT : TOK P T) {t e : TypeId} {n : Nat} (h : (T t).kind = .arr n e) : P.underlying t = some (.array n e) := by
 obtain ⟨d, h1, h2⟩ := hT.kind (t := t) (by rw [h]; intro h; cases h)
 rw [h] at h2
 cases d <;> simp [TK.of] at h2
 obtain ⟨rfl, rfl⟩ := h2; exact h1

theorem TOK.mp (hT : TOK P T) {t k e : TypeId} (h : (T t).kind = .map k e) : P.underlying t = some (.map k e) := by
 obtain ⟨d, h1, h2⟩ := hT.kind (t := t) (by rw [h]; intro h; cases h)
 rw [h] at h2
 cases d <;> simp [TK.of] at h2
 obtain ⟨rfl, rfl⟩ := h2; exact h1

theorem TOK.int (hT : TOK P T) {t : TypeId} {k : IntKind} (h : (T t).kind = .int k) : P.underlying t = some (.int k) := by
 obtain ⟨d, h1, h2⟩ := hT.kind (t := t) (by rw [h]; intro h; cases h)
 rw [h] at h2
 cases d <;> simp [TK.of] at h2
 subst h2; exact h1

theorem TOK.string (hT : TOK P T) {t : TypeId} (h : (T t).kind = .string) : P.underlying t = some .string := by
 obtain ⟨d, h1, h2⟩ := hT.kind (t := t) (by rw [h]; intro h; cases h)
 rw [h] at h2
 cases d <;> simp [TK.of] at h2
 exact h1

theorem TOK.bool (hT : TOK P T) {t : TypeId} (h : (T t).kind = .bool) : P.underlying t = some .bool := by
 obtain ⟨d, h1, h2⟩ := hT.kind (t := t) (by rw [h]; intro h; cases h)
 rw [h] at h2
 cases d <;> simp [TK.of] at h2
 exact h1

theorem TOK.ptr (hT : TOK P T) {t e : TypeId} (h : (T t).kind = .ptr e) : P.underlying t = some (.pointer e) := by
 obtain ⟨d, h1, h2⟩ := hT.kind (t := t) (by rw [h]; intro h; cases h)
 rw [h] at h2
 cases d <;> simp [TK.of] at h2
 subst h2; exact h1

theorem TOK.func (hT : TOK P T) {t : TypeId} (h : (T t).kind = .func) : ∃ a b c, P.underlying t = some (.func a b c) := by
 obtain ⟨d, h1, h2⟩ := hT.kind (t := t) (by rw [h]; intro h; cases h)
 rw [h] at h2
 cases d <;> simp [TK.of] at h2
 exact ⟨_, _, _, h1⟩

theorem run_und {t : TypeId} {d : TypeDesc} (h : P.underlying t = some d) (w : World) : (underlying t).run P w = .ok d w := by
 simp [underlying, h]

theorem run_size (hT : TOK P T) {t : TypeId} (h : (T t).size ≠ 0) (w : World) : (sizeOf t).run P w = .ok (T t).size w := by
 obtain ⟨i, d, h1, _, h2, _⟩ := hT.get h
 simp [sizeOf, typeInfo, h1, h2]

theorem run_isAgg (hT : TOK P T) {t : TypeId} (h : (T t).size ≠ 0) (w : World) : (isAgg t).run P w = .ok (T t).kind.agg w := by
 obtain ⟨i, d, _, _, _, _, h1, h2⟩ := hT.get h
 unfold isAgg
 rw [Sem.run_bind, run_und h1]
 rw [← h2]
 cases d <;> simp [TK.of, TK.agg]

theorem run_zero (hT : TOK P T) {t : TypeId} (h : (T t).size ≠ 0) (w : World) : (zeroValue t).run P w = .ok (T t).zv w := by
 obtain ⟨i, d, h1, h2, _⟩ := hT.get h
 simp [zeroValue, typeInfo, h1, h2]

end

def CellsAt (D : Dir) (ok : Nat → Prop) (w : World) (blk off : Nat) (cs : List V) : Prop :=
 ∀ (j : Nat) (x : V), cs[j]? = some x → ∃ u, w.cell? ⟨blk, off + j, none⟩ = some u ∧ u.oneCell' = true ∧ VRel D ok w x u

theorem CellsAt.take {D : Dir} {ok : Nat → Prop} {w : World} {blk off : Nat} {cs : List V} (h : CellsAt D ok w blk off cs) (n : Nat) : CellsAt D ok w blk off (cs.take n) := by
 intro j x hx
 rw [List.getElem?_take] at hx
 split at hx
 ·exact h j x hx
 ·cases hx

theorem CellsAt.drop {D : Dir} {ok : Nat → Prop} {w : World} {blk off : Nat} {cs : List V} (h : CellsAt D ok w blk off cs) (n : Nat) : CellsAt D ok w blk (off + n) (cs.drop n) := by
 intro j x hx
 rw [List.getElem?_drop] at hx
 have := h (n + j) x hx
 rwa [← Nat.add_assoc] at this

theorem Addr.add_none (b o n : Nat) : (⟨b, o, none⟩ : Addr).add n = ⟨b, o + n, none⟩ := by
 unfold Addr.add; split <;> simp_all

theorem pick_cells {D : Dir} {ok : Nat → Prop} {w : World} {blk off : Nat} : ∀ {cs : List V}, CellsAt D ok w blk off cs →
  ∃ us : List Value, us.length = cs.length ∧ (∀ u ∈ us, u.oneCell' = true) ∧ (∀ (j : Nat) (u : Value), us[j]? = some u → w.cell? ⟨blk, off + j, none⟩ = some u) ∧
   (∀ (j : Nat) (x : V) (u : Value), cs[j]? = some x → us[j]? = some u → VRel D ok w x u) := by
 intro cs h
 have hex : ∀ j, j < cs.length → ∃ u, w.cell? ⟨blk, off + j, none⟩ = some u ∧ u.oneCell' = true ∧ ∀ x, cs[j]? = some x → VRel D ok w x u := by
  intro j hj
  obtain ⟨u, h1, h2, h3⟩ := h j cs[j] (by simp [hj])
  exact ⟨u, h1, h2, fun x hx => by simp [hj] at hx; exact hx ▸ h3⟩
 refine ⟨(List.range cs.length).map fun j => (w.cell? ⟨blk, off + j, none⟩).getD undef, by simp, ?_, ?_, ?_⟩
 ·intro u hu
  simp only [List.mem_map, List.mem_range] at hu
  obtain ⟨j, hj, rfl⟩ := hu
  obtain ⟨u, h1, h2, _⟩ := hex j hj
  simp [h1, h2]
 ·intro j u hu
  simp only [List.getElem?_map, Option.map_eq_some_iff] at hu
  obtain ⟨j', hj', rfl⟩ := hu
  have hj : j < cs.length := by
   rcases Nat.lt_or_ge j cs.length with h | h
   ·exact h
   ·rw [List.getElem?_eq_none (by simpa using h)] at hj'; cases hj'
  have : j' = j := by simp [hj] at hj'; exact hj'.symm
  subst this
  obtain ⟨u, h1, _⟩ := hex j' hj
  simp [h1]
 ·intro j x u hx hu
  have hj : j < cs.length := by
   rcases Nat.lt_or_ge j cs.length with h | h
   ·exact h
   ·rw [List.getElem?_eq_none h] at hx; cases hx
  obtain ⟨u', h1, _, h3⟩ := hex j hj
  simp [hj, h1] at hu
  exact hu ▸ h3 x hx

theorem loadVar_sound {P : Program} {T : Tab} (hT : TOK P T) {t : TypeId} (hs : (T t).size ≠ 0) {D : Dir} {ok : Nat → Prop} {w : World} {blk off : Nat} {cs : List V}
  (h : CellsAt D ok w blk off cs) (hl : cs.length = (T t).size) {v : V} (hv : valOf (T t) cs = some v) :
  ∃ u, (loadVar t ⟨blk, off, none⟩).run P w = .ok u w ∧ VRel D ok w v u ∧ ((T t).kind.agg = false → u.oneCell' = true) := by
 unfold loadVar
 rw [Sem.run_bind, run_isAgg hT hs]
 simp only [Result.andThen_ok]
 unfold valOf at hv
 by_cases hk : (T t).kind.agg = true
 ·rw [if_pos hk] at hv
  obtain rfl := Option.some.inj hv
  obtain ⟨us, h1, h2, h3, h4⟩ := pick_cells h
  refine ⟨.agg us.toArray, ?_, .agg cs us h1 h2 h4, by simp [hk]⟩
  simp only [hk, if_true, Sem.run_bind, run_size hT hs, Result.andThen_ok]
  rw [← hl, ← h1, run_loadCells_list w ⟨blk, off, none⟩ us (fun j u hu => by rw [Addr.add_none]; exact h3 j u hu)]
  rfl
 ·rw [if_neg hk] at hv
  split at hv
  ·rename_i x
   obtain rfl := Option.some.inj hv
   obtain ⟨u, h1, h2, h3⟩ := h 0 x rfl
   refine ⟨u, ?_, h3, fun _ => h2⟩
   rw [Nat.add_zero] at h1
   simp [hk, h1]
  ·cases hv

end Go.AM
end
section
namespace Go.AM
open Go

section
variable {P : Program} {T : Tab} {E : Env} {m : Locs} {h : List Ob} {w : World}

theorem stale_arr {ep sz : Nat} {l : Option (Nat × Nat)} (h : stale ep (.arr ep sz l)) : False := Nat.lt_irrefl _ (show ep < ep from h)

theorem dir_arr {o ep sz : Nat} {es : List (List V)} (ho : h.getD o .unborn = .arr ep sz es) : dirOf m h o = some (.arr ep sz (m o)) := by
 rw [dirOf_eq, ho]; rfl

theorem dir_mp {o : Nat} {k : KK} {f : List Int → Option V} (ho : h.getD o .unborn = .mp k f) : dirOf m h o = some (.mp k (m o)) := by
 rw [dirOf_eq, ho]; rfl

theorem rp_cells {D : Dir} {ok : Nat → Prop} {cs : List V} {u : Value} (hv : VRel D ok w (.rp cs) u) : ∃ blk off, u = .pointer (some ⟨blk, off, none⟩) ∧ CellsAt D ok w blk off cs := by
 cases hv with
 | pure hp =>
  cases hp with
  | rp _ blk off us hok hlt hc hr =>
   refine ⟨blk, off, rfl, fun j x hx => ⟨us j, hc j ?_, (hr j x hx).one, .pure (hr j x hx)⟩⟩
   rcases Nat.lt_or_ge j cs.length with h | h
   ·exact h
   ·rw [List.getElem?_eq_none h] at hx; cases hx

theorem arr_cells (R : HRel E m h w) {o ep sz : Nat} {es : List (List V)} (ho : h.getD o .unborn = .arr ep sz es) {blk off : Nat} (hm : m o = some (blk, off)) :
  ∃ (c : Array Value) (e : TypeId), w.heap[blk]? = some (Obj.cells c e (0, 0)) ∧ off + es.length * sz ≤ c.size ∧
   ∀ ix, ix < es.length → CellsAt (dirOf m h) (okc E m h) w blk (off + ix * sz) (es.getD ix []) := by
 have hob := R.obs o
 rw [ho, hm] at hob
 obtain ⟨_, _, _, c, e, hc, hsz, hcs⟩ := hob
 refine ⟨c, e, hc, hsz, fun ix hix j x hx => ?_⟩
 obtain ⟨u, h1, h2, h3⟩ := hcs ix j x (by simp [List.getD, hix] at hx ⊢; exact hx)
 exact ⟨u, by simp [World.cell?, hc, h1], h2, h3⟩

theorem arr_sz (R : HRel E m h w) {o ep sz : Nat} {es : List (List V)} (ho : h.getD o .unborn = .arr ep sz es) : (∀ x ∈ es, x.length = sz) ∧ sz ≠ 0 ∧ es.length ≤ most := by
 have hob := R.obs o
 rw [ho] at hob
 exact ⟨hob.1, hob.2.1, hob.2.2.1⟩

theorem var_cells (R : HRel E m h w) {o : Nat} {t : TypeId} {cs : List V} (ho : h.getD o .unborn = .var t cs) : ∃ blk, m o = some (blk, 0) ∧ CellsAt (dirOf m h) (okc E m h) w blk 0 cs := by
 have hob := R.obs o
 rw [ho] at hob
 obtain ⟨blk, c, hm, hc, hsz, hne, hcs⟩ := hob
 refine ⟨blk, hm, fun j x hx => ?_⟩
 obtain ⟨u, h1, h2, h3⟩ := hcs j x hx
 exact ⟨u, by simp [World.cell?, hc, h1], h2, h3⟩

theorem dir_var {o : Nat} {t : TypeId} {cs : List V} (ho : h.getD o .unborn = .var t cs) : dirOf m h o = some (.arr 0 cs.length (m o)) := by
 rw [dirOf_eq, ho]; rfl

theorem var_ptr {o fl blk : Nat} {t : TypeId} {cs : List V} {u : Value} (ho : h.getD o .unborn = .var t cs) (hm : m o = some (blk, 0))
  (hv : VRel (dirOf m h) (okc E m h) w (.ptr o 0 0 fl) u) : u = .pointer (some ⟨blk, 0 + fl, none⟩) := by
 cases hv with
 | pure hp => cases hp
 | ptr _ _ _ _ sz' blk' off hD =>
  rw [dir_var ho, hm] at hD
  cases hD
  simp
 | ptrS _ _ _ _ d _ hD hs =>
  rw [dir_var ho] at hD
  obtain rfl := Option.some.inj hD
  exact (stale_arr hs).elim

theorem ptr_inv (_R : HRel E m h w) {o ep sz ix fl : Nat} {es : List (List V)} {u : Value} (ho : h.getD o .unborn = .arr ep sz es)
  (hv : VRel (dirOf m h) (okc E m h) w (.ptr o ep ix fl) u) : ∃ blk off, m o = some (blk, off) ∧ u = .pointer (some ⟨blk, off + ix * sz + fl, none⟩) := by
 cases hv with
 | pure hp => cases hp
 | ptr _ _ _ _ sz' blk off hD =>
  rw [dir_arr ho] at hD
  simp only [Option.some.injEq, DE.arr.injEq, true_and] at hD
  exact ⟨blk, off, hD.2, by rw [hD.1]⟩
 | ptrS _ _ _ _ d _ hD hs =>
  rw [dir_arr ho] at hD
  obtain rfl := Option.some.inj hD
  exact (stale_arr hs).elim

theorem ld_sound (hT : TOK P T) (R : HRel E m h w) {t : TypeId} (hs : (T t).size ≠ 0) {x v : V} {u0 : Value} (hx : VRel (dirOf m h) (okc E m h) w x u0)
  (hl : ld (T t) (fun o => h.getD o .unborn) x = some v) : ∃ u, (Instr.loadAt t u0).run P w = .ok u w ∧ VRel (dirOf m h) (okc E m h) w v u := by
 unfold ld at hl
 split at hl
 ·rename_i cs
  obtain ⟨blk, off, rfl, hc⟩ := rp_cells hx
  split at hl
  ·rename_i hle
   obtain ⟨u, h1, h2, _⟩ := loadVar_sound hT hs (hc.take (T t).size) (by simp; omega) hl
   exact ⟨u, by simp [Instr.loadAt, Instr.sureAddr, h1], h2⟩
  ·cases hl
 ·rename_i o ep ix fl
  dsimp only at hl
  split at hl
  ·rename_i ep' sz es ho
   split at hl
   ·rename_i hle
    obtain ⟨rfl, hix, hfl⟩ := hle
    obtain ⟨blk, off, hm, rfl⟩ := ptr_inv R ho hx
    obtain ⟨c, e, hc, hsz, hcs⟩ := arr_cells R ho hm
    obtain ⟨u, h1, h2, _⟩ := loadVar_sound hT hs (((hcs ix hix).drop fl).take (T t).size) (by simp only [List.length_take, List.length_drop]; omega) hl
    exact ⟨u, by simp [Instr.loadAt, Instr.sureAddr, h1], h2⟩
   ·cases hl
  ·rename_i tb cs ho
   split at hl
   ·rename_i hle
    obtain ⟨rfl, rfl, hfl⟩ := hle
    obtain ⟨blk, hm, hcs⟩ := var_cells R ho
    obtain rfl := var_ptr ho hm hx
    obtain ⟨u, h1, h2, _⟩ := loadVar_sound hT hs ((hcs.drop fl).take (T t).size) (by simp only [List.length_take, List.length_drop]; omega) hl
    exact ⟨u, by rw [Nat.zero_add] at h1; simp [Instr.loadAt, Instr.sureAddr, h1], h2⟩
   ·cases hl
  ·cases hl
 ·cases hl

theorem cellsOf_rel {D : Dir} {ok : Nat → Prop} {x : V} {u : Value} {cs : List V} (hv : VRel D ok w x u) (hc : cellsOf x = some cs) :
  u.cells.size = cs.length ∧ (∀ y ∈ u.cells.toList, y.oneCell' = true) ∧ ∀ (j : Nat) (x : V) (y : Value), cs[j]? = some x → u.cells.toList[j]? = some y → VRel D ok w x y := by
 have one : ∀ (h1 : u.oneCell' = true), cs = [x] → u.cells.size = cs.length ∧ (∀ y ∈ u.cells.toList, y.oneCell' = true) ∧ ∀ (j : Nat) (x : V) (y : Value), cs[j]? = some x → u.cells.toList[j]? = some y → VRel D ok w x y := by
  intro h1 hcs
  have hu : u.cells = #[u] := by cases u <;> first | rfl | simp [Value.oneCell'] at h1
  subst hcs
  rw [hu]
  refine ⟨rfl, by simpa using h1, fun j x' y hx hy => ?_⟩
  cases j with
  | zero => simp at hx hy; subst hx; subst hy; exact hv
  | succ j => simp at hx
 cases hv with
 | pure hp =>
  have h1 := hp.one
  cases hp <;> exact one h1 (by simpa [cellsOf] using hc.symm)
 | junk => simp [cellsOf] at hc
 | agg cs' us hl h1 hr =>
  simp only [cellsOf, Option.some.injEq] at hc
  subst hc
  exact ⟨by simp [Value.cells, hl], by simpa [Value.cells] using h1, fun j x y hx hy => hr j x y hx (by simpa [Value.cells] using hy)⟩
 | tup => simp [cellsOf] at hc
 | _ => exact one rfl (by simpa [cellsOf] using hc.symm)

end

theorem HRel.fresh {E : Env} {m : Locs} {h : List Ob} {w : World} (R : HRel E m h w) {nx : Nat} (hnx : h.getD nx .unborn = .unborn) {sz : Nat} {es : List (List V)} (w1 : World)
  (hw1 : w1 = w ∨ w1 = w.drew) (c : Array Value) (e : TypeId) (hsz : sz ≠ 0) (hel : ∀ x ∈ es, x.length = sz) (hm : es.length ≤ most) (hc : es.length * sz ≤ c.size)
  (hcs : ∀ (i j : Nat) (x : V), (es[i]?).bind (fun l => l[j]?) = some x → ∃ u, c[i * sz + j]? = some u ∧ u.oneCell' = true ∧ VRel (dirOf m h) (okc E m h) w x u) :
  ∃ m', m' nx = some (w.heap.size, 0) ∧ HRel E m' (setOb h nx (.arr 0 sz es)) (w1.alloc (.cells c e)) ∧
   (∀ x u, VRel (dirOf m h) (okc E m h) w x u → VRel (dirOf m' (setOb h nx (.arr 0 sz es))) (okc E m' (setOb h nx (.arr 0 sz es))) (w1.alloc (.cells c e)) x u) := by
 have hsz1 : w1.heap.size = w.heap.size := by rcases hw1 with rfl | rfl <;> simp
 have hx : WExt (fun b => ∃ off, live (h.getD nx .unborn) ∧ m nx = some (b, off)) w (w1.alloc (.cells c e)) := by
  rcases hw1 with rfl | rfl
  ·exact WExt.alloc _ _ _
  ·exact (WExt.drew _ _).trans (WExt.alloc _ _ _)
 have hnew : (w1.alloc (.cells c e)).heap[w.heap.size]? = some (.cells c e) := by
  rw [← hsz1]; exact heap_alloc_new w1 _
 have := R.set1 (o := nx) (ob' := .arr 0 sz es) (loc' := some (w.heap.size, 0)) (getD_setOb h nx (.arr 0 sz es)) hx
  (by rw [hnx]; intro d hd; cases hd)
  (fun blk off hl _ => .inr (by cases hl; exact ⟨Nat.le_refl _, by simp [hsz1]⟩))
  (fun D' ok' hv _ => ⟨hel, hsz, hm, c, e, hnew, by simpa using hc, fun i j x hx => by
   obtain ⟨u, h1, h2, h3⟩ := hcs i j x hx
   exact ⟨u, by simpa using h1, h2, hv _ _ h3⟩⟩)
 exact ⟨_, by simp, this.1, this.2⟩

end Go.AM
end
section
namespace Go.AM
open Go

theorem splice_get {α : Type} (l vs : List α) (k p : Nat) (h : k + vs.length ≤ l.length) :
  (l.take k ++ vs ++ l.drop (k + vs.length))[p]? = if k ≤ p ∧ p < k + vs.length then vs[p - k]? else l[p]? := by
 rw [List.append_assoc, List.getElem?_append, List.length_take, Nat.min_eq_left (by omega)]
 by_cases h1 : p < k
 ·rw [if_pos h1, if_neg (by omega), List.getElem?_take, if_pos h1]
 ·rw [if_neg h1, List.getElem?_append]
  by_cases h2 : p - k < vs.length
  ·rw [if_pos h2, if_pos (by omega)]
  ·rw [if_neg h2, if_neg (by omega), List.getElem?_drop]
   congr 1
   omega

theorem splice_length {α : Type} (l vs : List α) (k : Nat) (h : k + vs.length ≤ l.length) : (l.take k ++ vs ++ l.drop (k + vs.length)).length = l.length := by
 simp only [List.length_append, List.length_take, List.length_drop]
 omega

theorem idx_ne {i ix sz j f : Nat} (hi : i ≠ ix) (hj : j < sz) (hf : f < sz) : i * sz + j ≠ ix * sz + f := by
 rcases Nat.lt_or_gt_of_ne hi with h | h
 ·have : (i + 1) * sz ≤ ix * sz := Nat.mul_le_mul_right sz h
  rw [Nat.add_mul] at this
  omega
 ·have : (ix + 1) * sz ≤ i * sz := Nat.mul_le_mul_right sz h
  rw [Nat.add_mul] at this
  omega

theorem WExt.setRow {S : Nat → Prop} {w : World} {g : Nat} {c : Array Value} {e : TypeId} {fr : Nat × Nat} (hg : w.heap[g]? = some (.cells c e fr)) (hS : S g) (c' : Array Value) (hsz : c'.size = c.size) :
  WExt S w (w.setRow g c') := by
 refine ⟨rfl, rfl, rfl, by simp, fun b hb hn => setRow_other w g b c' (fun e => hn (e ▸ hS)), fun b c1 e1 fr1 h1 => ?_⟩
 by_cases hb : b = g
 ·subst hb
  rw [hg] at h1
  cases h1
  exact ⟨c', fr, setRow_heap w b c c' e fr hg, hsz⟩
 ·exact ⟨c1, fr1, by rw [setRow_other w g b c' hb]; exact h1, rfl⟩

section
variable {P : Program} {T : Tab} {E : Env} {m : Locs} {h : List Ob} {w : World}

theorem over_length (c : List V) (fl : Nat) (cs : List V) (hf : fl + cs.length ≤ c.length) : (over c fl cs).length = c.length := splice_length c cs fl hf

theorem HRel.write (R : HRel E m h w) {o ep sz ix fl blk off : Nat} {es : List (List V)} (ho : h.getD o .unborn = .arr ep sz es) (hm : m o = some (blk, off))
  (hix : ix < es.length) {cs : List V} (hfl : fl + cs.length ≤ (es.getD ix []).length) {us : List Value} (hl : us.length = cs.length) (h1 : ∀ u ∈ us, u.oneCell' = true)
  (hv : ∀ (j : Nat) (x : V) (u : Value), cs[j]? = some x → us[j]? = some u → VRel (dirOf m h) (okc E m h) w x u) :
  ∃ w', (storeCells ⟨blk, off + ix * sz + fl, none⟩ us).run P w = .ok () w' ∧ HRel E m (setOb h o (.arr ep sz (es.set ix (over (es.getD ix []) fl cs)))) w' ∧
   (∀ x u, VRel (dirOf m h) (okc E m h) w x u → VRel (dirOf m (setOb h o (.arr ep sz (es.set ix (over (es.getD ix []) fl cs))))) (okc E m (setOb h o (.arr ep sz (es.set ix (over (es.getD ix []) fl cs))))) w' x u) := by
 have hob := R.obs o
 rw [ho, hm] at hob
 obtain ⟨hel, hsz, hmo, c, e, hc, hcz, hcs⟩ := hob
 have hgl : (es.getD ix []).length = sz := hel _ (by simp [List.getD, hix])
 have hbound : off + ix * sz + fl + us.length ≤ c.size := by
  have : (ix + 1) * sz ≤ es.length * sz := Nat.mul_le_mul_right sz hix
  rw [Nat.add_mul] at this
  omega
 have hrun := run_storeCells_at P blk (off + ix * sz + fl) e us 0 c w hc (by simpa using hbound) h1
 rw [Nat.add_zero] at hrun
 have hsize : (c.toList.take (off + ix * sz + fl) ++ us ++ c.toList.drop (off + ix * sz + fl + us.length)).toArray.size = c.size := by
  rw [List.size_toArray, splice_length _ _ _ (by simpa using hbound), Array.length_toList]
 have hS : (fun b => ∃ off, live (h.getD o .unborn) ∧ m o = some (b, off)) blk := ⟨off, by rw [ho]; trivial, hm⟩
 have := R.set1 (h' := setOb h o (.arr ep sz (es.set ix (over (es.getD ix []) fl cs)))) (o := o) (ob' := .arr ep sz (es.set ix (over (es.getD ix []) fl cs))) (loc' := m o) (getD_setOb h o _) (WExt.setRow hc hS _ hsize)
  (by rw [ho]; intro d hd; exact ⟨d, hd, .refl d⟩)
  (fun blk' off' hl _ => .inl ⟨by rw [ho]; trivial, off', hl⟩)
  (fun D' ok' hvv _ => by
   rw [hm]
   refine ⟨?_, hsz, by simpa using hmo, (c.toList.take (off + ix * sz + fl) ++ us ++ c.toList.drop (off + ix * sz + fl + us.length)).toArray, e, setRow_heap w blk c _ e (0, 0) hc, Nat.le_trans (by simpa using hcz) (Nat.le_of_eq hsize.symm), ?_⟩
   ·intro x hx
    rcases List.mem_or_eq_of_mem_set hx with h2 | h2
    ·exact hel x h2
    ·rw [h2, over_length _ _ _ hfl, hgl]
   ·intro i j x hx
    have hget : (c.toList.take (off + ix * sz + fl) ++ us ++ c.toList.drop (off + ix * sz + fl + us.length)).toArray[off + i * sz + j]? =
      if off + ix * sz + fl ≤ off + i * sz + j ∧ off + i * sz + j < off + ix * sz + fl + us.length then us[off + i * sz + j - (off + ix * sz + fl)]? else c[off + i * sz + j]? := by
     rw [List.getElem?_toArray, splice_get _ _ _ _ (by simpa using hbound)]
     split
     ·rfl
     ·simp
    by_cases hii : ix = i
    ·subst hii
     have hx' : (over (es.getD ix []) fl cs)[j]? = some x := by
      rw [List.getElem?_set_self hix] at hx
      exact hx
     unfold over at hx'
     rw [splice_get _ _ _ _ hfl] at hx'
     by_cases hj : fl ≤ j ∧ j < fl + cs.length
     ·rw [if_pos hj] at hx'
      have hu : j - fl < us.length := by omega
      refine ⟨us[j - fl], ?_, h1 _ (List.getElem_mem _), hvv _ _ (hv (j - fl) x _ hx' (by simp [hu]))⟩
      rw [hget, if_pos (by omega), show off + ix * sz + j - (off + ix * sz + fl) = j - fl by omega]
      simp [hu]
     ·rw [if_neg hj] at hx'
      obtain ⟨u, h2, h3, h4⟩ := hcs ix j x (by simp [List.getD, hix] at hx' ⊢; exact hx')
      exact ⟨u, by rw [hget, if_neg (by omega)]; exact h2, h3, hvv _ _ h4⟩
    ·rw [List.getElem?_set_ne hii] at hx
     obtain ⟨u, h2, h3, h4⟩ := hcs i j x hx
     refine ⟨u, ?_, h3, hvv _ _ h4⟩
     have hj : j < sz := by
      cases hi : es[i]? with
      | none => rw [hi] at hx; cases hx
      | some l =>
       rw [hi] at hx
       have : l.length = sz := hel l (List.mem_of_getElem? hi)
       rcases Nat.lt_or_ge j l.length with h | h
       ·omega
       ·have hx2 : l[j]? = some x := hx
        rw [List.getElem?_eq_none h] at hx2; cases hx2
     rw [hget, if_neg ?_]
     ·exact h2
     ·rintro ⟨h5, h6⟩
      have := idx_ne (i := i) (ix := ix) (sz := sz) (j := j) (f := off + i * sz + j - (off + ix * sz)) (Ne.symm hii) hj (by omega)
      omega)
 refine ⟨_, hrun, ?_⟩
 have hm' : (fun x => if x = o then m o else m x) = m := by
  funext x
  by_cases hxo : x = o
  ·simp [hxo]
  ·simp [hxo]
 rw [hm'] at this
 exact this

theorem HRel.writeVar (R : HRel E m h w) {o fl blk : Nat} {t : TypeId} {cs0 : List V} (ho : h.getD o .unborn = .var t cs0) (hm : m o = some (blk, 0))
  {cs : List V} (hfl : fl + cs.length ≤ cs0.length) {us : List Value} (hl : us.length = cs.length) (h1 : ∀ u ∈ us, u.oneCell' = true)
  (hv : ∀ (j : Nat) (x : V) (u : Value), cs[j]? = some x → us[j]? = some u → VRel (dirOf m h) (okc E m h) w x u) :
  ∃ w', (storeCells ⟨blk, 0 + fl, none⟩ us).run P w = .ok () w' ∧ HRel E m (setOb h o (.var t (over cs0 fl cs))) w' ∧
   (∀ x u, VRel (dirOf m h) (okc E m h) w x u → VRel (dirOf m (setOb h o (.var t (over cs0 fl cs)))) (okc E m (setOb h o (.var t (over cs0 fl cs)))) w' x u) := by
 have hob := R.obs o
 rw [ho, hm] at hob
 obtain ⟨blk', c, hb, hc, hsz, hne, hcs⟩ := hob
 cases hb
 have hbound : 0 + fl + us.length ≤ c.size := by omega
 have hrun := run_storeCells_at P blk (0 + fl) t us 0 c w hc (by simpa using hbound) h1
 rw [Nat.add_zero] at hrun
 have hsize : (c.toList.take (0 + fl) ++ us ++ c.toList.drop (0 + fl + us.length)).toArray.size = c.size := by
  rw [List.size_toArray, splice_length _ _ _ (by simpa using hbound), Array.length_toList]
 have hS : (fun b => ∃ off, live (h.getD o .unborn) ∧ m o = some (b, off)) blk := ⟨0, by rw [ho]; trivial, hm⟩
 have hlen := over_length cs0 fl cs hfl
 have := R.set1 (h' := setOb h o (.var t (over cs0 fl cs))) (o := o) (ob' := .var t (over cs0 fl cs)) (loc' := m o) (getD_setOb h o _) (WExt.setRow hc hS _ hsize)
  (by rw [ho]; intro d hd; exact ⟨d, by simpa [deOf, hlen] using hd, .refl d⟩)
  (fun blk' off' hl _ => .inl ⟨by rw [ho]; trivial, off', hl⟩)
  (fun D' ok' hvv _ => by
   rw [hm]
   refine ⟨blk, (c.toList.take (0 + fl) ++ us ++ c.toList.drop (0 + fl + us.length)).toArray, rfl, setRow_heap w blk c _ t (0, 0) hc, by rw [hsize, hlen]; exact hsz, ?_, fun j x hx => ?_⟩
   ·intro he; rw [he] at hlen; exact hne (List.eq_nil_of_length_eq_zero hlen.symm)
   ·have hget : (c.toList.take (0 + fl) ++ us ++ c.toList.drop (0 + fl + us.length)).toArray[j]? =
        if 0 + fl ≤ j ∧ j < 0 + fl + us.length then us[j - (0 + fl)]? else c[j]? := by
     rw [List.getElem?_toArray, splice_get _ _ _ _ (by simpa using hbound)]
     split
     ·rfl
     ·simp
    unfold over at hx
    rw [splice_get _ _ _ _ hfl] at hx
    by_cases hj : fl ≤ j ∧ j < fl + cs.length
    ·rw [if_pos hj] at hx
     have hu : j - fl < us.length := by omega
     refine ⟨us[j - fl], ?_, h1 _ (List.getElem_mem _), hvv _ _ (hv (j - fl) x _ hx (by simp [hu]))⟩
     rw [hget, if_pos (by omega)]
     simp [hu]
    ·rw [if_neg hj] at hx
     obtain ⟨u, h2, h3, h4⟩ := hcs j x hx
     exact ⟨u, by rw [hget, if_neg (by omega)]; exact h2, h3, hvv _ _ h4⟩)
 refine ⟨_, hrun, ?_⟩
 have hm' : (fun x => if x = o then m o else m x) = m := by
  funext x
  by_cases hxo : x = o
  ·simp [hxo]
  ·simp [hxo]
 rw [hm'] at this
 exact this

theorem st_sound (hT : TOK P T) (R : HRel E m h w) {t : TypeId} (hs : (T t).size ≠ 0) {x y : V} {u0 u1 : Value} {o : Nat} {ob' : Ob} (hx : VRel (dirOf m h) (okc E m h) w x u0)
  (hy : VRel (dirOf m h) (okc E m h) w y u1) (hl : stv (T t) (fun o => h.getD o .unborn) x y = some (o, ob')) :
  ∃ w', (Instr.storeAt t u0 u1).run P w = .ok () w' ∧ HRel E m (setOb h o ob') w' ∧
   (∀ x u, VRel (dirOf m h) (okc E m h) w x u → VRel (dirOf m (setOb h o ob')) (okc E m (setOb h o ob')) w' x u) := by
 unfold stv at hl
 split at hl
 ·rename_i o' ep ix fl cs hcs
  dsimp only at hl
  split at hl
  ·rename_i ep' sz es ho
   split at hl
   ·rename_i hc
    obtain ⟨rfl, hix, hsz, hfl⟩ := hc
    cases hl
    obtain ⟨blk, off, hm, rfl⟩ := ptr_inv R ho hx
    obtain ⟨h1, h2, h3⟩ := cellsOf_rel hy hcs
    obtain ⟨w', h4, h5, h6⟩ := R.write (P := P) ho hm hix hfl (us := u1.cells.toList) (by simpa using h1) h2 h3
    refine ⟨w', ?_, h5, h6⟩
    simp only [Instr.storeAt, Instr.sureAddr, Sem.run_bind, Sem.run_pure, Result.andThen_ok, storeVar, run_size hT hs]
    rw [if_neg (by omega)]
    exact h4
   ·cases hl
  ·rename_i tb cs0 ho
   split at hl
   ·rename_i hc
    obtain ⟨rfl, rfl, hsz, hfl⟩ := hc
    cases hl
    obtain ⟨blk, hm, _⟩ := var_cells R ho
    obtain rfl := var_ptr ho hm hx
    obtain ⟨h1, h2, h3⟩ := cellsOf_rel hy hcs
    obtain ⟨w', h4, h5, h6⟩ := R.writeVar (P := P) ho hm hfl (us := u1.cells.toList) (by simpa using h1) h2 h3
    refine ⟨w', ?_, h5, h6⟩
    simp only [Instr.storeAt, Instr.sureAddr, Sem.run_bind, Sem.run_pure, Result.andThen_ok, storeVar, run_size hT hs]
    rw [if_neg (by omega)]
    exact h4
   ·cases hl
  ·cases hl
 ·cases hl
end

end Go.AM
end
section
namespace Go.AM
open Go

def Out (P : Program) (E : Env) (m : Locs) (h : List Ob) (w : World) (s : Sem Value) (v : V) (h' : List Ob) : Prop :=
 ∃ u w' m', s.run P w = .ok u w' ∧ HRel E m' h' w' ∧ (∀ x y, VRel (dirOf m h) (okc E m h) w x y → VRel (dirOf m' h') (okc E m' h') w' x y) ∧
  VRel (dirOf m' h') (okc E m' h') w' v u

section
variable {P : Program} {T : Tab} {E : Env} {m : Locs} {h : List Ob} {w : World}

theorem Out.same (R : HRel E m h w) {s : Sem Value} {v : V} {u : Value} (hr : s.run P w = .ok u w) (hv : VRel (dirOf m h) (okc E m h) w v u) : Out P E m h w s v h :=
 ⟨u, w, m, hr, R, fun _ _ h => h, hv⟩

def CRel (D : Dir) (ok : Nat → Prop) (w : World) (cs : List V) (c : Array Value) : Prop :=
 c.size = cs.length ∧ ∀ (j : Nat) (x : V) (u : Value), cs[j]? = some x → c[j]? = some u → u.oneCell' = true ∧ VRel D ok w x u

theorem CRel.at {D : Dir} {ok : Nat → Prop} {cs : List V} {c : Array Value} (hc : CRel D ok w cs c) {j : Nat} {x : V} (hx : cs[j]? = some x) : ∃ u, c[j]? = some u ∧ u.oneCell' = true ∧ VRel D ok w x u := by
 have hj : j < c.size := by
  rw [hc.1]
  rcases Nat.lt_or_ge j cs.length with h | h
  ·exact h
  ·rw [List.getElem?_eq_none h] at hx; cases hx
 exact ⟨c[j], by simp [hj], hc.2 j x c[j] hx (by simp [hj])⟩

theorem zero_crel (hT : TOK P T) {t : TypeId} (hs : (T t).size ≠ 0) {D : Dir} {ok : Nat → Prop} : CRel D ok w (T t).zero (T t).zv.cells := by
 refine ⟨by simp [TI.zero], fun j x u hx hu => ⟨hT.cells hs u (by rw [← Array.getElem?_toList] at hu; exact List.mem_of_getElem? hu), ?_⟩⟩
 simp only [TI.zero, List.getElem?_map, Option.map_eq_some_iff] at hx
 obtain ⟨u', hu', rfl⟩ := hx
 rw [Array.getElem?_toList, hu] at hu'
 cases hu'
 exact toV_rel u

theorem cellsOf_crel {D : Dir} {ok : Nat → Prop} {x : V} {u : Value} {cs : List V} (hv : VRel D ok w x u) (hc : cellsOf x = some cs) : CRel D ok w cs u.cells := by
 obtain ⟨h1, h2, h3⟩ := cellsOf_rel hv hc
 exact ⟨h1, fun j x u hx hu => ⟨h2 u (by rw [← Array.getElem?_toList] at hu; exact List.mem_of_getElem? hu), h3 j x u hx (by rw [Array.getElem?_toList]; exact hu)⟩⟩

theorem newVar_out (_hT : TOK P T) (R : HRel E m h w) {t : TypeId} (hs : (T t).size ≠ 0) {nx : Nat} (hnx : h.getD nx .unborn = .unborn) {cs : List V} {v : Value}
  (hc : CRel (dirOf m h) (okc E m h) w cs v.cells) (hl : cs.length = (T t).size) :
  Out P E m h w (do pure (.pointer (some (← newVar t v)))) (.ptr nx 0 0 0) (setOb h nx (.arr 0 (T t).size [cs])) := by
 obtain ⟨m', h1, h2, h3⟩ := R.fresh hnx (es := [cs]) (sz := (T t).size) w (.inl rfl) v.cells t hs (by simpa using hl) (by simp [most]) (by simp [hc.1, hl])
  (fun i j x hx => by
   cases i with
   | zero =>
    obtain ⟨u, h4, h5, h6⟩ := hc.at (j := j) (x := x) (by simpa using hx)
    exact ⟨u, by simpa using h4, h5, h6⟩
   | succ i => simp at hx)
 refine ⟨_, _, m', ?_, h2, h3, .ptr nx 0 0 0 (T t).size w.heap.size 0 ?_⟩
 ·simp [newVar, newRow]
 ·rw [dirOf_eq, getD_setOb, if_pos rfl, h1]; rfl

theorem alloc_out (hT : TOK P T) (R : HRel E m h w) {t : TypeId} (hs : (T t).size ≠ 0) (hz : (T t).zero.length = (T t).size) {nx : Nat} (hnx : h.getD nx .unborn = .unborn) :
  Out P E m h w (Instr.alloc t true (.tuple #[])) (.ptr nx 0 0 0) (setOb h nx (.arr 0 (T t).size [(T t).zero])) := by
 obtain ⟨u, w', m', h1, h2⟩ := newVar_out (P := P) hT R hs hnx (v := (T t).zv) (zero_crel hT hs) hz
 refine ⟨u, w', m', ?_, h2⟩
 rw [← h1]
 simp [Instr.alloc, run_zero hT hs]

theorem allocVar_out (hT : TOK P T) (R : HRel E m h w) {t : TypeId} (hs : (T t).size ≠ 0) (hz : (T t).zero.length = (T t).size) {nx : Nat} (hnx : h.getD nx .unborn = .unborn) :
  Out P E m h w (Instr.alloc t true (.tuple #[])) (.ptr nx 0 0 0) (setOb h nx (.var t (T t).zero)) := by
 have hcr := zero_crel (w := w) (D := dirOf m h) (ok := okc E m h) hT hs
 have hnew : (w.alloc (.cells (T t).zv.cells t)).heap[w.heap.size]? = some (.cells (T t).zv.cells t) := heap_alloc_new w _
 have := R.set1 (o := nx) (ob' := .var t (T t).zero) (loc' := some (w.heap.size, 0)) (getD_setOb h nx (.var t (T t).zero)) (WExt.alloc _ w (.cells (T t).zv.cells t))
  (by rw [hnx]; intro d hd; cases hd)
  (fun blk off hl _ => .inr (by cases hl; exact ⟨Nat.le_refl _, by simp⟩))
  (fun D' ok' hv _ => ⟨w.heap.size, (T t).zv.cells, rfl, hnew, hcr.1, (by intro he; rw [he] at hz; exact hs hz.symm), fun j x hx => by
   obtain ⟨u, h1, h2, h3⟩ := hcr.at hx
   exact ⟨u, h1, h2, hv _ _ h3⟩⟩)
 refine ⟨.pointer (some ⟨w.heap.size, 0, none⟩), w.alloc (.cells (T t).zv.cells t), _, ?_, this.1, this.2, ?_⟩
 ·simp [Instr.alloc, run_zero hT hs, newVar, newRow]
 ·have := VRel.ptr (D := dirOf (fun x => if x = nx then some (w.heap.size, 0) else m x) (setOb h nx (.var t (T t).zero))) (ok := okc E (fun x => if x = nx then some (w.heap.size, 0) else m x) (setOb h nx (.var t (T t).zero))) (w := w.alloc (.cells (T t).zv.cells t)) nx 0 0 0 (T t).zero.length w.heap.size 0 (by rw [dirOf_eq, getD_setOb, if_pos rfl]; simp [deOf])
  simpa using this

theorem box_out (hT : TOK P T) (R : HRel E m h w) {t : TypeId} (hs : (T t).size ≠ 0) {nx : Nat} (hnx : h.getD nx .unborn = .unborn) {x : V} {u : Value} {cs : List V}
  (hx : VRel (dirOf m h) (okc E m h) w x u) (hc : cellsOf x = some cs) (hl : cs.length = (T t).size) :
  Out P E m h w (Instr.box t u) (.ptr nx 0 0 0) (setOb h nx (.arr 0 (T t).size [cs])) :=
 newVar_out hT R hs hnx (cellsOf_crel hx hc) hl

theorem newSlice_out (R : HRel E m h w) {nx : Nat} (hnx : h.getD nx .unborn = .unborn) {sz n cap : Nat} (hsz : sz ≠ 0) {es : List (List V)} (hn : es.length = n) (hel : ∀ x ∈ es, x.length = sz) (hm : n ≤ most)
  (w1 : World) (hw1 : w1 = w ∨ w1 = w.drew) (c : Array Value) (e : TypeId) (hcap : n ≤ cap) (hc : cap * sz = c.size)
  (hcs : ∀ (i j : Nat) (x : V), (es[i]?).bind (fun l => l[j]?) = some x → ∃ u, c[i * sz + j]? = some u ∧ u.oneCell' = true ∧ VRel (dirOf m h) (okc E m h) w x u)
  {s : Sem Value} (hr : s.run P w = .ok (.slice (some ⟨w.heap.size, 0, none⟩) n cap) (w1.alloc (.cells c e))) :
  Out P E m h w s (.sl nx 0 0 n) (setOb h nx (.arr 0 sz es)) := by
 have hle : es.length * sz ≤ c.size := by rw [← hc, hn]; exact Nat.mul_le_mul_right _ hcap
 obtain ⟨m', h1, h2, h3⟩ := R.fresh hnx (es := es) (sz := sz) w1 hw1 c e hsz hel (by rw [hn]; exact hm) hle hcs
 have hsz1 : w1.heap.size = w.heap.size := by rcases hw1 with rfl | rfl <;> simp
 have hnew : (w1.alloc (.cells c e)).heap[w.heap.size]? = some (.cells c e) := by
  rw [← hsz1]; exact heap_alloc_new w1 _
 have hd : dirOf m' (setOb h nx (.arr 0 sz es)) nx = some (.arr 0 sz (some (w.heap.size, 0))) := by
  rw [dirOf_eq, getD_setOb, if_pos rfl, h1]; rfl
 refine ⟨_, _, m', hr, h2, h3, ?_⟩
 have := VRel.sl (D := dirOf m' (setOb h nx (.arr 0 sz es))) (ok := okc E m' (setOb h nx (.arr 0 sz es))) nx 0 0 n sz w.heap.size 0 cap c e (0, 0) hd hcap hnew (by simp [hc])
 simpa using this

theorem made_get (z : Array Value) (n sz i j : Nat) (hz : z.size = sz) (hj : j < sz) (hi : i < n) : (madeCells z (n * sz))[i * sz + j]? = z[j]? := by
 have hlt : i * sz + j < n * sz := by
  have : (i + 1) * sz ≤ n * sz := Nat.mul_le_mul_right sz hi
  rw [Nat.add_mul] at this
  omega
 have hmod : (i * sz + j) % z.size = j := by
  rw [hz, Nat.mul_comm, Nat.mul_add_mod, Nat.mod_eq_of_lt hj]
 have hj' : j < z.size := by omega
 simp [madeCells, hlt, hmod, hj']

theorem makeSlice_out (hT : TOK P T) (R : HRel E m h w) {t e : TypeId} (ht : (T t).kind = .slc e) (hs : (T e).size ≠ 0) (hz : (T e).zero.length = (T e).size) {nx : Nat} (hnx : h.getD nx .unborn = .unborn)
  (kl kc : IntKind) (l c : Int) (h0 : 0 ≤ l) (hlc : l ≤ c) (hroom : roomFor c.toNat (T e).bytes) :
  Out P E m h w (Instr.makeSlice t (.int kl l) (.int kc c)) (.sl nx 0 0 l.toNat) (setOb h nx (.arr 0 (T e).size (List.replicate l.toNat (T e).zero))) := by
 obtain ⟨i, d, hi, hzv, hsz, hby, _, _⟩ := hT.get hs
 obtain ⟨hr1, hr2⟩ := hroom
 have hb : (i.bytes : Int) * c ≤ 281474976710656 := by
  rw [hby]
  have : ((c.toNat * (T e).bytes : Nat) : Int) ≤ 140737488355328 := by omega
  rw [Int.natCast_mul, Int.toNat_of_nonneg (by omega), Int.mul_comm] at this
  omega
 have hrun := run_make (P := P) w t e i (T e).zv (hT.slc ht) hi hzv kl kc l c h0 hlc hb (by omega)
 have hzz : (T e).zv.cells.size = (T e).size := by rw [← hz]; simp [TI.zero]
 refine newSlice_out R hnx hs (n := l.toNat) (cap := c.toNat) (by simp) (fun x hx => by rw [(List.mem_replicate.1 hx).2, hz]) (by unfold most; omega) w (.inl rfl) _ e (by omega) (by rw [size_madeCells, hsz]) ?_ hrun
 intro i' j x hx
 have hi' : i' < l.toNat := by
  rcases Nat.lt_or_ge i' l.toNat with h | h
  ·exact h
  ·rw [List.getElem?_eq_none (by simpa using h)] at hx; cases hx
 have hx' : (T e).zero[j]? = some x := by simpa [List.getElem?_replicate, hi'] using hx
 obtain ⟨u, h4, h5, h6⟩ := (zero_crel (w := w) (D := dirOf m h) (ok := okc E m h) hT hs).at hx'
 have hj : j < (T e).size := by
  rcases Nat.lt_or_ge j (T e).size with h | h
  ·exact h
  ·rw [List.getElem?_eq_none (by rw [hz]; exact h)] at hx'; cases hx'
 exact ⟨u, by rw [hsz, made_get _ _ _ _ _ hzz hj (by omega)]; exact h4, h5, h6⟩

theorem foldl_set (off : Nat) : ∀ (l : List Value) (k : Nat) (c : Array Value), off + k + l.length ≤ c.size →
  ((l.zipIdx k).foldl (fun cs p => cs.setIfInBounds (off + p.2) p.1) c).size = c.size ∧
  ∀ p, ((l.zipIdx k).foldl (fun cs p => cs.setIfInBounds (off + p.2) p.1) c)[p]? = if off + k ≤ p ∧ p < off + k + l.length then l[p - (off + k)]? else c[p]?
 | [], k, c, _ => ⟨rfl, fun p => by rw [if_neg (by simp)]; rfl⟩
 | v :: l, k, c, hl => by
  simp only [List.length_cons] at hl
  obtain ⟨h1, h2⟩ := foldl_set off l (k + 1) (c.setIfInBounds (off + k) v) (by simp; omega)
  simp only [List.zipIdx_cons, List.foldl_cons]
  refine ⟨by rw [h1]; simp, fun p => ?_⟩
  rw [h2 p]
  by_cases hp : p = off + k
  ·subst hp
   rw [if_neg (by omega), if_pos (by simp), Array.getElem?_setIfInBounds_self_of_lt (by omega)]
   simp
  ·by_cases hq : off + (k + 1) ≤ p ∧ p < off + (k + 1) + l.length
   ·rw [if_pos hq, if_pos (by simp; omega), show p - (off + k) = p - (off + (k + 1)) + 1 by omega]
    simp
   ·rw [if_neg hq, if_neg (by simp; omega), Array.getElem?_setIfInBounds_ne (by omega)]

theorem fill_sound {D : Dir} {ok : Nat → Prop} {pl : Nat → Option (Nat × Nat)} {place : Nat → Option (Nat × Nat)} (hpl : ∀ j q, pl j = some q → place j = some q) :
  ∀ (ps : List (Nat × V)) (us : List (Nat × Value)) (cs cs' : List V) (c : Array Value), us.length = ps.length →
   (∀ (j : Nat) (p : Nat × V) (q : Nat × Value), ps[j]? = some p → us[j]? = some q → p.1 = q.1 ∧ VRel D ok w p.2 q.2) →
   CRel D ok w cs c → fillV pl cs ps = some cs' → ∃ c', Instr.fill place c us = some c' ∧ CRel D ok w cs' c'
 | [], [], cs, cs', c, _, _, hc, hf => by
  simp only [fillV, Option.some.injEq] at hf
  subst hf
  exact ⟨c, rfl, hc⟩
 | [], _ :: _, _, _, _, hl, _, _, _ => by simp at hl
 | _ :: _, [], _, _, _, hl, _, _, _ => by simp at hl
 | (j, v) :: ps, (j', u) :: us, cs, cs', c, hl, hr, hc, hf => by
  obtain ⟨hj, hv⟩ := hr 0 _ _ rfl rfl
  dsimp only at hj hv
  subst hj
  simp only [fillV] at hf
  split at hf
  ·rename_i off size cv hp hcv
   split at hf
   ·rename_i hle
    have hcr := cellsOf_crel hv hcv
    obtain ⟨h1, h2⟩ := foldl_set off u.cells.toList 0 c (by simp [hc.1, hcr.1]; omega)
    have hfold : u.cells.zipIdx.foldl (fun cs p => cs.setIfInBounds (off + p.2) p.1) c = (u.cells.toList.zipIdx 0).foldl (fun cs p => cs.setIfInBounds (off + p.2) p.1) c := by
     rw [← Array.foldl_toList, Array.toList_zipIdx]
    have hcr' : CRel D ok w (over cs off cv) (u.cells.zipIdx.foldl (fun cs p => cs.setIfInBounds (off + p.2) p.1) c) := by
     rw [hfold]
     refine ⟨by rw [h1, over_length _ _ _ (by omega)]; exact hc.1, fun p x y hx hy => ?_⟩
     rw [h2 p] at hy
     unfold over at hx
     rw [splice_get _ _ _ _ (by omega)] at hx
     simp only [Nat.add_zero, Array.length_toList, hcr.1] at hy
     by_cases hq : off ≤ p ∧ p < off + cv.length
     ·rw [if_pos hq] at hx hy
      exact hcr.2 (p - off) x y hx (by simpa using hy)
     ·rw [if_neg hq] at hx hy
      exact hc.2 p x y hx hy
    obtain ⟨c', h3, h4⟩ := fill_sound hpl ps us (over cs off cv) cs' _ (by simpa using hl) (fun i p q hp hq => hr (i + 1) p q hp hq) hcr' hf
    refine ⟨c', ?_, h4⟩
    simp only [Instr.fill, hpl j _ hp]
    rw [if_neg]
    ·exact h3
    ·have := hcr.1
     have := hc.1
     simp
     omega
   ·cases hf
  ·cases hf

end

end Go.AM
end
section
namespace Go.AM
open Go

section
variable {P : Program} {T : Tab} {E : Env} {m : Locs} {h : List Ob} {w : World}

theorem map_chunks {sz n : Nat} {cs : List V} (i j : Nat) (x : V)
  (hx : (((List.range n).map fun j => (cs.drop (j * sz)).take sz)[i]?).bind (fun l => l[j]?) = some x) : i < n ∧ j < sz ∧ cs[i * sz + j]? = some x := by
 have hi : i < n := by
  rcases Nat.lt_or_ge i n with h | h
  ·exact h
  ·rw [List.getElem?_eq_none (by simpa using h)] at hx; cases hx
 have hx' : ((cs.drop (i * sz)).take sz)[j]? = some x := by simpa [hi] using hx
 rw [List.getElem?_take] at hx'
 by_cases hj : j < sz
 ·rw [if_pos hj, List.getElem?_drop] at hx'
  exact ⟨hi, hj, hx'⟩
 ·rw [if_neg hj] at hx'; cases hx'

theorem buildSlice_out (hT : TOK P T) (R : HRel E m h w) {t e : TypeId} (ht : (T t).kind = .slc e) (hs : (T e).size ≠ 0) (hz : (T e).zero.length = (T e).size) {n : Nat} (hn : n * (T e).size ≤ 16777216)
  {nx : Nat} (hnx : h.getD nx .unborn = .unborn) {ps : List (Nat × V)} {us : Array (Nat × Value)} (hl : us.size = ps.length)
  (hr : ∀ (j : Nat) (p : Nat × V) (q : Nat × Value), ps[j]? = some p → us.toList[j]? = some q → p.1 = q.1 ∧ VRel (dirOf m h) (okc E m h) w p.2 q.2) {cs : List V}
  (hf : fillV (fun j => if j < n then some (j * (T e).size, (T e).size) else none) ((List.replicate n (T e).zero).flatten) ps = some cs) (hcl : cs.length = n * (T e).size) :
  Out P E m h w (Instr.buildSlice t n us) (.sl nx 0 0 n) (setOb h nx (.arr 0 (T e).size ((List.range n).map fun j => (cs.drop (j * (T e).size)).take (T e).size))) := by
 have hzz : (T e).zv.cells.size = (T e).size := by rw [← hz]; simp [TI.zero]
 have hflat : ∀ (k i j : Nat), i < k → j < (T e).size → ((List.replicate k (T e).zero).flatten)[i * (T e).size + j]? = (T e).zero[j]? := by
  intro k
  induction k with
  | zero => intro i j hi; omega
  | succ k ih =>
   intro i j hi hj
   rw [List.replicate_succ, List.flatten_cons, List.getElem?_append, hz]
   cases i with
   | zero => rw [if_pos (by omega)]; simp
   | succ i =>
    rw [Nat.add_mul, if_neg (by omega), show i * (T e).size + 1 * (T e).size + j - (T e).size = i * (T e).size + j by omega]
    exact ih i j (by omega) hj
 have hlen : ((List.replicate n (T e).zero).flatten).length = n * (T e).size := by simp [hz]
 have hmade : CRel (dirOf m h) (okc E m h) w ((List.replicate n (T e).zero).flatten) (madeCells (T e).zv.cells (n * (T e).size)) := by
  refine ⟨by rw [size_madeCells, hlen], fun p x u hx hu => ?_⟩
  have hp : p < n * (T e).size := by
   rcases Nat.lt_or_ge p (n * (T e).size) with h | h
   ·exact h
   ·rw [List.getElem?_eq_none (by rw [hlen]; exact h)] at hx; cases hx
  have hpe : p = p / (T e).size * (T e).size + p % (T e).size := by rw [Nat.mul_comm]; exact (Nat.div_add_mod p _).symm
  have hj : p % (T e).size < (T e).size := Nat.mod_lt _ (by omega)
  have hi : p / (T e).size < n := by rw [Nat.div_lt_iff_lt_mul (by omega)]; exact hp
  rw [hpe, hflat n _ _ hi hj] at hx
  rw [hpe, made_get _ _ _ _ _ hzz hj hi] at hu
  exact (zero_crel hT hs).2 _ _ _ hx hu
 obtain ⟨c', h1, h2⟩ := fill_sound (place := fun i => some (i * (T e).size, (T e).size)) (fun j q hq => by
  split at hq
  ·exact hq
  ·cases hq) ps us.toList _ cs _ (by simpa using hl) hr hmade hf
 have hrun : (Instr.buildSlice t n us).run P w = .ok (.slice (some ⟨w.heap.size, 0, none⟩) n n) (w.alloc (.cells c' e)) := by
  have h16 : ¬ (n * (T e).size > 2 ^ 24) := by omega
  unfold Instr.buildSlice
  simp only [Sem.run_bind, run_und (hT.slc ht), Result.andThen_ok, run_size hT hs]
  rw [if_neg h16]
  by_cases h0 : n * (T e).size = 0
  ·have he : (madeCells (T e).zv.cells (n * (T e).size)) = #[] := by rw [h0]; simp [madeCells, Array.range_zero']
   rw [he] at h1
   simp [h0, h1, newRow, Array.range_zero']
  ·have h1' : Instr.fill (fun i => some (i * (T e).size, (T e).size)) (Array.map (fun x => (T e).zv.cells[x % (T e).zv.cells.size]!) (Array.range (n * (T e).size))) us.toList = some c' := h1
   simp [h0, h1', newRow, run_zero hT hs]
 refine newSlice_out R hnx hs (n := n) (cap := n) (by simp) ?_ ?_ w (.inl rfl) c' e (Nat.le_refl _) (by rw [h2.1, hcl]) ?_ hrun
 ·intro x hx
  simp only [List.mem_map, List.mem_range] at hx
  obtain ⟨j, hj, rfl⟩ := hx
  have : (j + 1) * (T e).size ≤ n * (T e).size := Nat.mul_le_mul_right _ hj
  rw [Nat.add_mul] at this
  simp only [List.length_take, List.length_drop]
  omega
 ·have : n * 1 ≤ n * (T e).size := Nat.mul_le_mul_left n (by omega)
  unfold most
  omega
 ·intro i j x hx
  obtain ⟨hi, hj, hc⟩ := map_chunks i j x hx
  exact h2.at hc

structure Elems (P : Program) (D : Dir) (ok : Nat → Prop) (w : World) (sz : Nat) (news : List (List V)) (u : Value) (us : List Value) : Prop where
 len : us.length = news.length * sz
 el : ∀ x ∈ news, x.length = sz
 lenOf : ∀ w', (Builtin.lenOf u).run P w' = .ok news.length w'
 first : ∀ n w', n ≤ news.length → (∀ a, w'.cell? a = w.cell? a) → (Builtin.firstCells sz n u).run P w' = .ok (us.take (n * sz)).toArray w'
 one : ∀ u ∈ us, u.oneCell' = true
 rel : ∀ (i j : Nat) (x : V), (news[i]?).bind (fun l => l[j]?) = some x → ∃ u, us[i * sz + j]? = some u ∧ VRel D ok w x u

theorem elems_of_cells {D : Dir} {ok : Nat → Prop} {sz : Nat} {news : List (List V)} (hel : ∀ x ∈ news, x.length = sz) {blk off cap : Nat}
  (hc : ∀ ix, ix < news.length → CellsAt D ok w blk (off + ix * sz) (news.getD ix [])) :
  ∃ us, Elems P D ok w sz news (.slice (some ⟨blk, off, none⟩) news.length cap) us := by
 have hcell : ∀ p, p < news.length * sz → ∃ u, w.cell? ⟨blk, off + p, none⟩ = some u ∧ u.oneCell' = true ∧ ∀ x, (news[p / sz]?).bind (fun l => l[p % sz]?) = some x → VRel D ok w x u := by
  intro p hp
  have hsz : 0 < sz := by
   rcases Nat.eq_zero_or_pos sz with h | h
   ·subst h; omega
   ·exact h
  have hi : p / sz < news.length := by rw [Nat.div_lt_iff_lt_mul hsz]; exact hp
  have hj : p % sz < sz := Nat.mod_lt _ hsz
  have hl : (news.getD (p / sz) []).length = sz := hel _ (by simp [List.getD, hi])
  obtain ⟨u, h1, h2, h3⟩ := hc (p / sz) hi (p % sz) ((news.getD (p / sz) [])[p % sz]'(by omega)) (by simp)
  have hpe : off + p / sz * sz + p % sz = off + p := by rw [Nat.mul_comm, Nat.add_assoc, Nat.div_add_mod]
  rw [hpe] at h1
  refine ⟨u, h1, h2, fun x hx => ?_⟩
  have : (news.getD (p / sz) [])[p % sz]? = some x := by simpa [List.getD, hi] using hx
  rw [List.getElem?_eq_getElem (by omega)] at this
  cases this
  exact h3
 have hget : ∀ p u, ((List.range (news.length * sz)).map fun p => (w.cell? ⟨blk, off + p, none⟩).getD undef)[p]? = some u → p < news.length * sz ∧ w.cell? ⟨blk, off + p, none⟩ = some u := by
  intro p u hu
  have hp : p < news.length * sz := by
   rcases Nat.lt_or_ge p (news.length * sz) with h | h
   ·exact h
   ·rw [List.getElem?_eq_none (by simpa using h)] at hu; cases hu
  obtain ⟨u', h1, _⟩ := hcell p hp
  simp [hp, h1] at hu
  exact ⟨hp, hu ▸ h1⟩
 refine ⟨(List.range (news.length * sz)).map fun p => (w.cell? ⟨blk, off + p, none⟩).getD undef, ⟨by simp, hel, fun w' => by simp [Builtin.lenOf], ?_, ?_, ?_⟩⟩
 ·intro n w' hn hcs
  refine run_firstCells_some w' sz n ⟨blk, off, none⟩ news.length cap _ ?_ ?_
  ·have := Nat.mul_le_mul_right sz hn
   rw [List.length_take, List.length_map, List.length_range]
   omega
  ·intro j v hv
   rw [List.getElem?_take] at hv
   split at hv
   ·rw [hcs, Addr.add_none]; exact (hget j v hv).2
   ·cases hv
 ·intro u hu
  obtain ⟨p, hp⟩ := List.mem_iff_getElem?.1 hu
  obtain ⟨h1, h2⟩ := hget p u hp
  obtain ⟨u', h3, h4, _⟩ := hcell p h1
  rw [h2] at h3
  cases h3
  exact h4
 ·intro i j x hx
  cases hi : news[i]? with
  | none => rw [hi] at hx; cases hx
  | some l =>
   rw [hi] at hx
   have hx' : l[j]? = some x := hx
   have hil : i < news.length := (List.getElem?_eq_some_iff.1 hi).1
   have hj : j < sz := by
    rw [← hel l (List.mem_of_getElem? hi)]
    exact (List.getElem?_eq_some_iff.1 hx').1
   have hsz : 0 < sz := by omega
   have hlt : i * sz + j < news.length * sz := by
    have : (i + 1) * sz ≤ news.length * sz := Nat.mul_le_mul_right sz hil
    rw [Nat.add_mul] at this
    omega
   obtain ⟨u, h1, _, h3⟩ := hcell (i * sz + j) hlt
   have hd : (i * sz + j) / sz = i := by rw [Nat.mul_comm, Nat.mul_add_div hsz, Nat.div_eq_of_lt hj, Nat.add_zero]
   have hmo : (i * sz + j) % sz = j := by rw [Nat.mul_comm, Nat.mul_add_mod, Nat.mod_eq_of_lt hj]
   rw [hd, hmo, hi] at h3
   exact ⟨u, by simp [hlt, h1], h3 x hx'⟩

theorem elems_nil {D : Dir} {ok : Nat → Prop} {sz : Nat} (a : Option Addr) (cap : Nat) : Elems P D ok w sz [] (.slice a 0 cap) [] :=
 ⟨by simp, by simp, fun w' => by simp [Builtin.lenOf], fun n w' hn _ => by
  have : n = 0 := by simpa using hn
  subst this
  cases a <;> simp [Builtin.firstCells, loadCells, loadCellsFrom], by simp, by simp⟩

theorem elems_string {D : Dir} {ok : Nat → Prop} (x : ByteArray) : Elems P D ok w 1 (x.data.toList.map fun u => [V.i .u8 u.toNat]) (.string x) (x.data.toList.map fun b => .int .u8 b.toNat) := by
 refine ⟨by simp, by simp, fun w' => by simp [Builtin.lenOf], fun n w' hn _ => ?_, by simp [Value.oneCell'], fun i j y hy => ?_⟩
 ·simp only [Builtin.firstCells, Sem.run_pure]
  congr 1
  apply Array.ext'
  simp [ByteArray.data_extract]
 ·cases hi : x.data.toList[i]? with
  | none => simp [hi] at hy
  | some b =>
   simp only [List.getElem?_map, hi, Option.map_some, Option.bind_some] at hy
   cases j with
   | zero =>
    simp at hy
    subst hy
    exact ⟨.int .u8 b.toNat, by simp [hi], .pure (.i _ _)⟩
   | succ j => simp at hy

theorem HRel.relabel (R : HRel E m h w) {o : Nat} {ob ob' : Ob} (ho : h.getD o .unborn = ob) (hl : live ob) (hl' : live ob') (hde : ∀ l, deOf l ob' = deOf l ob)
  (hob : OKo (dirOf m h) (okc E m h) w (m o) ob → OKo (dirOf m h) (okc E m h) w (m o) ob') :
  HRel E m (setOb h o ob') w ∧ dirOf m (setOb h o ob') = dirOf m h ∧ okc E m (setOb h o ob') = okc E m h := by
 have hlive : ∀ x, live ((setOb h o ob').getD x .unborn) ↔ live (h.getD x .unborn) := by
  intro x
  rw [getD_setOb]
  by_cases hx : x = o
  ·subst hx; rw [if_pos rfl, ho]; exact ⟨fun _ => hl, fun _ => hl'⟩
  ·rw [if_neg hx]
 have hd : dirOf m (setOb h o ob') = dirOf m h := by
  funext x
  rw [dirOf_eq, dirOf_eq, getD_setOb]
  by_cases hx : x = o
  ·subst hx; rw [if_pos rfl, ho, hde]
  ·rw [if_neg hx]
 have hk : okc E m (setOb h o ob') = okc E m h := by
  funext b
  unfold okc
  simp only [hlive]
 refine ⟨⟨R.ext, fun x blk off hx hm => R.blk x blk off ((hlive x).1 hx) hm, fun x y blk o1 o2 hx hy => R.inj x y blk o1 o2 ((hlive x).1 hx) ((hlive y).1 hy), fun x => ?_, fun x blk off hx hm => R.new x blk off ((hlive x).1 hx) hm, fun x d hx => by rw [hd]; exact R.dle x d hx⟩, hd, hk⟩
 rw [hd, hk, getD_setOb]
 by_cases hx : x = o
 ·subst hx; rw [if_pos rfl]; exact hob (by have := R.obs x; rw [ho] at this; exact this)
 ·rw [if_neg hx]; exact R.obs x

theorem HRel.toArr (R : HRel E m h w) {o ep : Nat} {e : TypeId} {es : List (List V)} (ho : h.getD o .unborn = .row e ep es) :
  HRel E m (setOb h o (.arr ep 1 es)) w ∧ dirOf m (setOb h o (.arr ep 1 es)) = dirOf m h ∧ okc E m (setOb h o (.arr ep 1 es)) = okc E m h :=
 R.relabel ho trivial trivial (fun _ => rfl) fun ⟨h1, h2, h3⟩ => ⟨h1, by decide, h2, by
  cases hm : m o with
  | none => rw [hm] at h3; exact h3
  | some l =>
   obtain ⟨blk, off⟩ := l
   rw [hm] at h3
   obtain ⟨_, c, hc, h4, h5⟩ := h3
   exact ⟨c, e, hc, h4, h5⟩⟩

theorem HRel.toRow (R : HRel E m h w) {o ep : Nat} {e : TypeId} {es : List (List V)} (ho : h.getD o .unborn = .arr ep 1 es) (hm : ∀ blk off, m o = some (blk, off) → off = 0 ∧ ∃ c, w.heap[blk]? = some (.cells c e (0, 0))) :
  HRel E m (setOb h o (.row e ep es)) w ∧ dirOf m (setOb h o (.row e ep es)) = dirOf m h ∧ okc E m (setOb h o (.row e ep es)) = okc E m h :=
 R.relabel ho trivial trivial (fun _ => rfl) fun ⟨h1, _, h2, h3⟩ => ⟨h1, h2, by
  cases hmo : m o with
  | none => rw [hmo] at h3; exact h3
  | some l =>
   obtain ⟨blk, off⟩ := l
   rw [hmo] at h3
   obtain ⟨c, e', hc, h4, h5⟩ := h3
   obtain ⟨h6, c', hc'⟩ := hm blk off hmo
   rw [hc] at hc'
   cases hc'
   exact ⟨h6, c, hc, h4, h5⟩⟩

theorem elems_sl (R : HRel E m h w) {o ep off n sz' : Nat} {es : List (List V)} {u : Value} (ho : h.getD o .unborn = .arr ep sz' es) (hle : off + n ≤ es.length) (hv : VRel (dirOf m h) (okc E m h) w (.sl o ep off n) u) :
  ∃ us, Elems P (dirOf m h) (okc E m h) w sz' ((es.drop off).take n) u us := by
 have hlen : ((es.drop off).take n).length = n := by simp; omega
 cases hv with
 | pure hp => cases hp
 | sl _ _ _ _ sz2 blk o0 cap cl e fr hD hn hb hf =>
  rw [dir_arr ho] at hD
  simp only [Option.some.injEq, DE.arr.injEq, true_and] at hD
  obtain ⟨rfl, hm⟩ := hD
  obtain ⟨c, e', hc, hcz, hcs⟩ := arr_cells R ho hm
  have hel := (arr_sz R ho).1
  have := elems_of_cells (P := P) (D := dirOf m h) (ok := okc E m h) (w := w) (sz := sz') (news := (es.drop off).take n) (fun x hx => hel x (List.mem_of_mem_drop (List.mem_of_mem_take hx)))
   (blk := blk) (off := o0 + off * sz') (cap := cap) (fun ix hix j y hy => by
    rw [hlen] at hix
    have := hcs (off + ix) (by omega) j y (by
     simpa [List.getD, List.getElem?_take, hix, List.getElem?_drop] using hy)
    rwa [show o0 + (off + ix) * sz' = o0 + off * sz' + ix * sz' by rw [Nat.add_mul]; omega] at this)
  rw [hlen] at this
  exact this
 | sl0 => exact ⟨[], by simpa using elems_nil _ 0⟩
 | slS _ _ _ _ _ d _ hD hst _ =>
  rw [dir_arr ho] at hD
  obtain rfl := Option.some.inj hD
  exact (stale_arr hst).elim

theorem elems_sound (R : HRel E m h w) {sz : Nat} {x : V} {u : Value} {news : List (List V)} (hv : VRel (dirOf m h) (okc E m h) w x u)
  (hx : elemsOf sz (fun o => h.getD o .unborn) x = some news) : ∃ us, Elems P (dirOf m h) (okc E m h) w sz news u us := by
 unfold elemsOf at hx
 split at hx
 ·rename_i sz' es
  split at hx
  ·rename_i he
   subst he
   cases hx
   cases hv with
   | pure hp =>
    cases hp with
    | ro0 _ a cap => exact ⟨[], elems_nil a cap⟩
    | ro _ _ blk off cap us hok hlt hsz hcap hm hc hr =>
     refine elems_of_cells hsz fun ix hix j y hy => ?_
     have hb : (news[ix]?).bind (fun l => l[j]?) = some y := by simpa [List.getD, hix] using hy
     have hl : (news.getD ix []).length = sz' := hsz _ (by simp [List.getD, hix])
     have hj : j < sz' := by
      rw [← hl]
      exact (List.getElem?_eq_some_iff.1 hy).1
     exact ⟨us ix j, hc ix j hix hj, (hr ix j y hb).one, .pure (hr ix j y hb)⟩
  ·cases hx
 ·rename_i o ep off n
  dsimp only at hx
  split at hx
  ·rename_i ep' sz' es ho
   split at hx
   ·rename_i he
    obtain ⟨rfl, rfl, hle⟩ := he
    cases hx
    exact elems_sl R ho hle hv
   ·cases hx
  ·rename_i e ep' es ho
   split at hx
   ·rename_i he
    obtain ⟨rfl, rfl, hle⟩ := he
    cases hx
    obtain ⟨R', hd, hk⟩ := R.toArr ho
    have := elems_sl (P := P) R' (by rw [getD_setOb, if_pos rfl]) hle (by rw [hd, hk]; exact hv)
    rw [hd, hk] at this
    exact this
   ·cases hx
  ·cases hx
 ·cases hx
  cases hv with
  | pure hp => cases hp; exact ⟨[], elems_nil none 0⟩
 ·cases hx
  cases hv with
  | pure hp => cases hp; exact ⟨[], elems_nil _ 0⟩
 ·rename_i x
  split at hx
  ·rename_i he
   subst he
   cases hx
   cases hv with
   | pure hp => cases hp; exact ⟨_, elems_string _⟩
  ·cases hx
 ·cases hx

end

end Go.AM
end
section
namespace Go.AM
open Go

section
variable {P : Program} {T : Tab} {E : Env} {m : Locs} {h : List Ob} {w : World}

theorem fillV_length {pl : Nat → Option (Nat × Nat)} : ∀ (ps : List (Nat × V)) (cs cs' : List V), fillV pl cs ps = some cs' → cs'.length = cs.length
 | [], cs, cs', h => by simp only [fillV, Option.some.injEq] at h; rw [h]
 | (j, v) :: ps, cs, cs', h => by
  simp only [fillV] at h
  split at h
  ·split at h
   ·rename_i hle
    rw [fillV_length ps _ _ h, over_length _ _ _ (by omega)]
   ·cases h
  ·cases h

def OutT (P : Program) (E : Env) (m : Locs) (h : List Ob) (w : World) (s : Sem Value) (v : V) (h' : List Ob) (o : Nat) (base : Option Addr) (e : TypeId) (X : Prop) : Prop :=
 ∃ u w' m', s.run P w = .ok u w' ∧ HRel E m' h' w' ∧ (∀ x y, VRel (dirOf m h) (okc E m h) w x y → VRel (dirOf m' h') (okc E m' h') w' x y) ∧
  VRel (dirOf m' h') (okc E m' h') w' v u ∧
  ∀ blk off, m' o = some (blk, off) → (off = 0 ∧ ∃ c, w'.heap[blk]? = some (.cells c e (0, 0))) ∨
   (X ∧ base = some ⟨blk, off, none⟩ ∧ ∀ c e' fr, w.heap[blk]? = some (.cells c e' fr) → ∃ c', w'.heap[blk]? = some (.cells c' e' (0, 0)))

theorem OutT.out {P : Program} {E : Env} {m : Locs} {h : List Ob} {w : World} {s : Sem Value} {v : V} {h' : List Ob} {o : Nat} {base : Option Addr} {e : TypeId} {X : Prop} (H : OutT P E m h w s v h' o base e X) : Out P E m h w s v h' := by
 obtain ⟨u, w', m', h1, h2, h3, h4, _⟩ := H
 exact ⟨u, w', m', h1, h2, h3, h4⟩

theorem grow_out (R : HRel E m h w) {o ep' sz cap : Nat} {es' : List (List V)} {e : TypeId} {c : Array Value} {s : Sem Value}
  (hd : ∀ d, deOf (m o) (h.getD o .unborn) = some d → ∃ d', deOf (some (w.heap.size, 0)) (.arr ep' sz es') = some d' ∧ DLe d d')
  (hsz : sz ≠ 0) (hel : ∀ x ∈ es', x.length = sz) (hm : es'.length ≤ most) (hcap : es'.length ≤ cap) (hc : c.size = cap * sz)
  (hcs : ∀ (i j : Nat) (x : V), (es'[i]?).bind (fun l => l[j]?) = some x → ∃ u, c[i * sz + j]? = some u ∧ u.oneCell' = true ∧ VRel (dirOf m h) (okc E m h) w x u)
  (hr : s.run P w = .ok (.slice (some ⟨w.heap.size, 0, none⟩) es'.length cap) (w.drew.alloc (.cells c e))) :
  ∀ base X, OutT P E m h w s (.sl o ep' 0 es'.length) (setOb h o (.arr ep' sz es')) o base e X := by
 intro base X
 have hnew : (w.drew.alloc (.cells c e)).heap[w.heap.size]? = some (.cells c e) := heap_alloc_new w.drew _
 have hle : es'.length * sz ≤ c.size := by rw [hc]; exact Nat.mul_le_mul_right _ hcap
 have := R.set1 (o := o) (ob' := .arr ep' sz es') (loc' := some (w.heap.size, 0)) (getD_setOb h o (.arr ep' sz es')) ((WExt.drew _ _).trans (WExt.alloc _ _ _)) hd
  (fun blk off hl _ => .inr (by cases hl; exact ⟨Nat.le_refl _, by simp⟩))
  (fun D' ok' hv _ => ⟨hel, hsz, hm, c, e, hnew, by simpa using hle, fun i j x hx => by
   obtain ⟨u, h1, h2, h3⟩ := hcs i j x hx
   exact ⟨u, by simpa using h1, h2, hv _ _ h3⟩⟩)
 refine ⟨_, _, _, hr, this.1, this.2, ?_, fun blk off hm => .inl ?_⟩
 rotate_left
 ·rw [if_pos rfl] at hm
  cases hm
  exact ⟨rfl, _, hnew⟩
 have hd' : dirOf (fun x => if x = o then some (w.heap.size, 0) else m x) (setOb h o (.arr ep' sz es')) o = some (.arr ep' sz (some (w.heap.size, 0))) := by
  rw [dirOf_eq, getD_setOb, if_pos rfl, if_pos rfl]; rfl
 have hres := VRel.sl (ok := okc E (fun x => if x = o then some (w.heap.size, 0) else m x) (setOb h o (.arr ep' sz es'))) o ep' 0 es'.length sz w.heap.size 0 cap c e (0, 0) hd' hcap hnew (by simp [hc])
 simpa using hres

def slcOrStr (P : Program) (t : TypeId) : Prop := (∃ e, P.underlying t = some (.slice e)) ∨ P.underlying t = some .string

theorem run_append_room' {t t' ty e : TypeId} (ht : P.underlying t = some (.slice e)) (ht' : slcOrStr P t') {size : Nat} (hs : ∀ w, (sizeOf e).run P w = .ok size w) {base : Option Addr} {sLen sCap n : Nat} {u : Value} {news : List Value}
  (hlen : (Builtin.lenOf u).run P w = .ok n w) (hf : (Builtin.firstCells size n u).run P w = .ok news.toArray w) (hroom : sLen + n ≤ sCap) :
  (Builtin.append_ #[t, t'] ty #[.slice base sLen sCap, u]).run P w =
   match base with
   | some a => ((storeCells (a.add (sLen * size)) news).run P w).andThen fun _ w' => .ok (.slice base (sLen + n) sCap) w'
   | none => .ok (.slice base (sLen + n) sCap) w := by
 rcases ht' with ⟨e', ht'⟩ | ht' <;> cases base <;> simp [Builtin.append_, run_und ht, run_und ht', hs, hlen, hroom, hf]

theorem run_append_grow' {t t' ty e : TypeId} (ht : P.underlying t = some (.slice e)) (ht' : slcOrStr P t') {i : TypeInfo} {z : Value} (hi : P.info? e = some i) (hz : i.zero = some z) {base : Option Addr} {sLen sCap n : Nat} {u : Value} {olds news : List Value}
  (hlen : (Builtin.lenOf u).run P w = .ok n w) (hfo : (Builtin.firstCells i.size sLen (.slice base sLen sCap)).run P w.drew = .ok olds.toArray w.drew) (hf : (Builtin.firstCells i.size n u).run P w.drew = .ok news.toArray w.drew)
  (hg : sCap < sLen + n) (h63 : sLen + n ≤ 9223372036854775807) (hb : (sLen + n) * i.bytes ≤ 140737488355328) :
  (Builtin.append_ #[t, t'] ty #[.slice base sLen sCap, u]).run P w =
   .ok (.slice (some ⟨w.heap.size, 0, none⟩) (sLen + n) (grownCap w (sLen + n) sCap e))
    (w.drew.alloc (.cells (olds.toArray ++ (news.toArray ++ Builtin.zeroCells z.cells (grownCap w (sLen + n) sCap e - (sLen + n)))) e)) := by
 have hn : ¬ (sLen + n ≤ sCap) := by omega
 have h63' : ¬ (9223372036854775807 < ((sLen : Int) + (n : Int))) := by omega
 have h48' : ¬ (281474976710656 < Builtin.nextslicecap (sLen + n) sCap * i.bytes) := by
  have := growslice_fits hg hb
  omega
 have hlen' : (Builtin.lenOf u).run P w = .ok n w := hlen
 rcases ht' with ⟨e', ht'⟩ | ht' <;>
  simp [Builtin.append_, run_und ht, run_und ht', sizeOf, typeInfo, zeroValue, hi, hz, hlen', hn, h63', h48', Question.forced, hf, hfo, newRow, grownCap]

theorem append_outT (hT : TOK P T) (R : HRel E m h w) {t t' ty e : TypeId} (ht : (T t).kind = .slc e) (ht' : slcOrStr P t') (hs : (T e).size ≠ 0) {base : Option Addr} {sCap : Nat} {es1 news : List (List V)} {x : V} {u : Value}
  {us1 : List Value} (h1 : Elems P (dirOf m h) (okc E m h) w (T e).size es1 (.slice base es1.length sCap) us1)
  (hx : VRel (dirOf m h) (okc E m h) w x u) (hnews : elemsOf (T e).size (fun o => h.getD o .unborn) x = some news) (hroom : roomFor (es1.length + news.length) (T e).bytes) {o ep' : Nat}
  (hd : ∀ d, deOf (m o) (h.getD o .unborn) = some d → ∀ l', ∃ d', deOf l' (.arr ep' (T e).size (es1 ++ news)) = some d' ∧ DLe d d')
  (hin : es1.length + news.length ≤ sCap → (sCap = 0 ∧ es1 = [] ∧ news = []) ∨
   ∃ blk o1 c e', base = some ⟨blk, o1, none⟩ ∧ live (h.getD o .unborn) ∧ (∃ o0, m o = some (blk, o0)) ∧ w.heap[blk]? = some (.cells c e' (0, 0)) ∧ o1 + sCap * (T e).size ≤ c.size ∧
    ∀ (i j : Nat) (x : V), (es1[i]?).bind (fun l => l[j]?) = some x → ∃ u, c[o1 + i * (T e).size + j]? = some u ∧ u.oneCell' = true ∧ VRel (dirOf m h) (okc E m h) w x u) :
  OutT P E m h w (Builtin.append_ #[t, t'] ty #[.slice base es1.length sCap, u]) (.sl o ep' 0 (es1.length + news.length)) (setOb h o (.arr ep' (T e).size (es1 ++ news))) o base e (0 < sCap) := by
 obtain ⟨us2, h2⟩ := elems_sound (P := P) R hx hnews
 obtain ⟨i, d, hi, hzv, hsz, hby, _, _⟩ := hT.get hs
 obtain ⟨hr1, hr2⟩ := hroom
 have hel : ∀ x ∈ es1 ++ news, x.length = (T e).size := by
  intro x hx
  rcases List.mem_append.1 hx with h | h
  ·exact h1.el x h
  ·exact h2.el x h
 have hrow : ∀ (c : Array Value) (k : Nat), (∀ (i j : Nat) (x : V), (es1[i]?).bind (fun l => l[j]?) = some x → ∃ u, c[k + i * (T e).size + j]? = some u ∧ u.oneCell' = true ∧ VRel (dirOf m h) (okc E m h) w x u) →
   (∀ p u, us2[p]? = some u → c[k + es1.length * (T e).size + p]? = some u) →
   ∀ (i j : Nat) (x : V), ((es1 ++ news)[i]?).bind (fun l => l[j]?) = some x → ∃ u, c[k + i * (T e).size + j]? = some u ∧ u.oneCell' = true ∧ VRel (dirOf m h) (okc E m h) w x u := by
  intro c k hc1 hc2 i j x hx
  rw [List.getElem?_append] at hx
  by_cases hi : i < es1.length
  ·rw [if_pos hi] at hx
   exact hc1 i j x hx
  ·rw [if_neg hi] at hx
   obtain ⟨u, h3, h4⟩ := h2.rel (i - es1.length) j x hx
   have h5 := hc2 _ _ h3
   rw [show k + es1.length * (T e).size + ((i - es1.length) * (T e).size + j) = k + (es1.length + (i - es1.length)) * (T e).size + j by rw [Nat.add_mul]; omega, Nat.add_sub_cancel' (by omega)] at h5
   exact ⟨u, h5, h2.one _ (List.mem_of_getElem? h3), h4⟩
 have hm2 : us2.take (news.length * (T e).size) = us2 := List.take_of_length_le (by rw [h2.len]; omega)
 by_cases hroom : es1.length + news.length ≤ sCap
 ·have hrun := run_append_room' (P := P) (w := w) (ty := ty) (hT.slc ht) ht' (fun w => run_size hT hs w) (base := base) (sLen := es1.length) (news := us2) (h2.lenOf w)
   (by have := h2.first news.length w (Nat.le_refl _) (fun _ => rfl); rw [hm2] at this; exact this) hroom
  have hin2 : (sCap = 0 ∧ es1 = [] ∧ news = []) ∨ (0 < sCap ∧ ∃ blk o1 c e', base = some ⟨blk, o1, none⟩ ∧ live (h.getD o .unborn) ∧ (∃ o0, m o = some (blk, o0)) ∧ w.heap[blk]? = some (.cells c e' (0, 0)) ∧ o1 + sCap * (T e).size ≤ c.size ∧
    ∀ (i j : Nat) (x : V), (es1[i]?).bind (fun l => l[j]?) = some x → ∃ u, c[o1 + i * (T e).size + j]? = some u ∧ u.oneCell' = true ∧ VRel (dirOf m h) (okc E m h) w x u) := by
   rcases Nat.eq_zero_or_pos sCap with hz | hz
   ·exact .inl ⟨hz, List.eq_nil_of_length_eq_zero (by omega), List.eq_nil_of_length_eq_zero (by omega)⟩
   ·rcases hin hroom with h9 | h9
    ·omega
    ·exact .inr ⟨hz, h9⟩
  rcases hin2 with ⟨rfl, rfl, rfl⟩ | ⟨hscp, blk, o1, c, e', rfl, hlive, ⟨o0, hmo⟩, hc, hcz, hold⟩
  ·have hu : us2 = [] := List.eq_nil_of_length_eq_zero (by simpa using h2.len)
   subst hu
   have hr0 : (Builtin.append_ #[t, t'] ty #[.slice base 0 0, u]).run P w = .ok (.slice base 0 0) w := by
    refine Eq.trans hrun ?_
    cases base <;> simp [storeCells]
   have := R.set1 (o := o) (ob' := .arr ep' (T e).size []) (loc' := none) (w' := w) (getD_setOb h o _) (WExt.refl _ _) (fun d hdd => hd d hdd none) (fun _ _ h => by cases h)
    (fun D' ok' hv _ => ⟨by simp, hs, by simp [most], rfl⟩)
   refine ⟨_, _, _, hr0, this.1, this.2, ?_, fun blk off hm => by rw [if_pos rfl] at hm; cases hm⟩
   refine .sl0 o ep' 0 (T e).size none base ?_
   rw [dirOf_eq]
   show deOf (if o = o then none else m o) ((setOb h o _).getD o .unborn) = _
   rw [getD_setOb, if_pos rfl, if_pos rfl]; rfl
  ·simp only [Addr.add_none] at hrun
   have hbound : o1 + es1.length * (T e).size + us2.length ≤ c.size := by
    have : (es1.length + news.length) * (T e).size ≤ sCap * (T e).size := Nat.mul_le_mul_right _ hroom
    rw [Nat.add_mul] at this
    rw [h2.len]
    omega
   have hst := run_storeCells_at P blk (o1 + es1.length * (T e).size) e' us2 0 c w hc (by simpa using hbound) h2.one
   rw [Nat.add_zero] at hst
   rw [hst, Result.andThen_ok] at hrun
   have hsize : (c.toList.take (o1 + es1.length * (T e).size) ++ us2 ++ c.toList.drop (o1 + es1.length * (T e).size + us2.length)).toArray.size = c.size := by
    rw [List.size_toArray, splice_length _ _ _ (by simpa using hbound), Array.length_toList]
   have hget : ∀ p, (c.toList.take (o1 + es1.length * (T e).size) ++ us2 ++ c.toList.drop (o1 + es1.length * (T e).size + us2.length)).toArray[p]? =
     if o1 + es1.length * (T e).size ≤ p ∧ p < o1 + es1.length * (T e).size + us2.length then us2[p - (o1 + es1.length * (T e).size)]? else c[p]? := by
    intro p
    rw [List.getElem?_toArray, splice_get _ _ _ _ (by simpa using hbound)]
    split
    ·rfl
    ·simp
   have hnewc := hrow _ o1 (fun i j x hx => by
    obtain ⟨u, h3, h4, h5⟩ := hold i j x hx
    refine ⟨u, ?_, h4, h5⟩
    rw [hget, if_neg ?_]
    ·exact h3
    ·rintro ⟨h6, _⟩
     cases hi : es1[i]? with
     | none => rw [hi] at hx; cases hx
     | some l =>
      rw [hi] at hx
      have hil : i < es1.length := (List.getElem?_eq_some_iff.1 hi).1
      have hj : j < (T e).size := by
       rw [← h1.el l (List.mem_of_getElem? hi)]
       exact (List.getElem?_eq_some_iff.1 (show l[j]? = some x from hx)).1
      have : (i + 1) * (T e).size ≤ es1.length * (T e).size := Nat.mul_le_mul_right _ hil
      rw [Nat.add_mul] at this
      omega) (fun p u hp => by
    have hpl : p < us2.length := (List.getElem?_eq_some_iff.1 hp).1
    rw [hget, if_pos (by omega), show o1 + es1.length * (T e).size + p - (o1 + es1.length * (T e).size) = p by omega]
    exact hp)
   have hS : (fun b => ∃ off, live (h.getD o .unborn) ∧ m o = some (b, off)) blk := ⟨o0, hlive, hmo⟩
   have := R.set1 (o := o) (ob' := .arr ep' (T e).size (es1 ++ news)) (loc' := some (blk, o1)) (getD_setOb h o _) (WExt.setRow hc hS _ hsize) (fun d hdd => hd d hdd _)
    (fun b' o' hl _ => .inl ⟨hlive, o0, by cases hl; exact hmo⟩)
    (fun D' ok' hv _ => ⟨hel, hs, by simpa [most] using hr1, _, e', setRow_heap w blk c _ e' (0, 0) hc, Nat.le_trans (by
     have : (es1.length + news.length) * (T e).size ≤ sCap * (T e).size := Nat.mul_le_mul_right _ hroom
     rw [List.length_append]
     omega) (Nat.le_of_eq hsize.symm), fun i j x hx => by
     obtain ⟨u, h3, h4, h5⟩ := hnewc i j x hx
     exact ⟨u, h3, h4, hv _ _ h5⟩⟩)
   refine ⟨_, _, _, hrun, this.1, this.2, ?_, fun blk' off' hm => .inr ?_⟩
   rotate_left
   ·rw [if_pos rfl] at hm
    cases hm
    refine ⟨hscp, rfl, fun c1 e1 fr1 h1 => ?_⟩
    rw [hc] at h1
    cases h1
    exact ⟨_, setRow_heap w _ c _ e' (0, 0) hc⟩
   have hd' : dirOf (fun x => if x = o then some (blk, o1) else m x) (setOb h o (.arr ep' (T e).size (es1 ++ news))) o = some (.arr ep' (T e).size (some (blk, o1))) := by
    rw [dirOf_eq, getD_setOb, if_pos rfl, if_pos rfl]; rfl
   have hres := VRel.sl (ok := okc E (fun x => if x = o then some (blk, o1) else m x) (setOb h o (.arr ep' (T e).size (es1 ++ news)))) o ep' 0 (es1.length + news.length) (T e).size blk o1 sCap _ e' (0, 0) hd' hroom
    (setRow_heap w blk c _ e' (0, 0) hc) (Nat.le_trans (by simpa using hcz) (Nat.le_of_eq hsize.symm))
   simpa using hres
 ·have hm1 : us1.take (es1.length * (T e).size) = us1 := List.take_of_length_le (by rw [h1.len]; omega)
  have hrun := run_append_grow' (P := P) (w := w) (ty := ty) (hT.slc ht) ht' hi hzv (base := base) (sLen := es1.length) (sCap := sCap) (olds := us1) (news := us2) (h2.lenOf w)
   (by have := h1.first es1.length w.drew (Nat.le_refl _) (fun _ => rfl); rw [hm1] at this; rw [hsz]; exact this)
   (by have := h2.first news.length w.drew (Nat.le_refl _) (fun _ => rfl); rw [hm2] at this; rw [hsz]; exact this)
   (by omega) hr1 (by rw [hby]; exact hr2)
  have hzz : (T e).zv.cells.size = (T e).size := by have := hT.zlen hs; simpa [TI.zero] using this
  have hge := grownCap_ge w (es1.length + news.length) sCap e
  rw [show es1.length + news.length = (es1 ++ news).length by simp] at hrun hge ⊢
  refine grow_out R (fun d hdd => hd d hdd _) hs hel (by simpa [most] using hr1) hge ?_ ?_ hrun _ _
  ·simp only [Array.size_append, List.size_toArray, size_zeroCells, hzz, h1.len, h2.len]
   rw [← Nat.add_mul, ← Nat.add_mul]
   congr 1
   simp only [List.length_append] at hge ⊢
   omega
  ·have := hrow (us1.toArray ++ (us2.toArray ++ Builtin.zeroCells (T e).zv.cells (grownCap w (es1 ++ news).length sCap e - (es1 ++ news).length))) 0 (fun i j x hx => by
       obtain ⟨u, h3, h4⟩ := h1.rel i j x hx
       have hlt : i * (T e).size + j < us1.length := (List.getElem?_eq_some_iff.1 h3).1
       refine ⟨u, ?_, h1.one u (List.mem_of_getElem? h3), h4⟩
       rw [Nat.zero_add, Array.getElem?_append_left (by simpa using hlt)]
       simpa using h3) (fun p u hp => by
       have hpl : p < us2.length := (List.getElem?_eq_some_iff.1 hp).1
       rw [Nat.zero_add, ← h1.len, Array.getElem?_append_right (by simp), Array.getElem?_append_left (by simp; omega)]
       simpa using hp)
   simpa using this

end

end Go.AM
end
