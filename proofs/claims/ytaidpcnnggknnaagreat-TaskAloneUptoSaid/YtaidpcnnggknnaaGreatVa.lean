/- The evaluator: a Go function's code tree run on deep values, without memory. Its soundness stands in the texts behind it. -/
import Derived.WalkKit
import Derived.Maps.AppendAt
import Derived.Laws.BytesArg
import Derived.Orders
import Derived.Laws.Tables
import Derived.Laws.Cover3
import Derived.Lib.UnsafeStr
import Derived.Laws.CopyRow
import Derived.Laws.MakeOwn

set_option linter.unusedVariables false
namespace Go.Vm
open Go

inductive DV where
  | sc (v : Value)
  | sl (xs : List (List DV))
  deriving Inhabited

inductive CV where
  | d (x : DV)
  | own (id n : Nat)
  | ptr (id n off : Nat)
  | fp (cs : List DV)
  | unk
  | nil
  | unkB
  | clo (f : Nat) (fs cs : List (Nat × Nat))
  | vw (id n lo hi k : Nat)
  | mp (id : Nat)
  deriving Inhabited

inductive V1 where
  | one (c : CV)
  | agg (cs : List CV)
  deriving Inhabited

inductive TV where
  | v (x : V1)
  | tup (vs : List V1)
  | unk
  deriving Inhabited

inductive Ob where
  | nil
  | box (t : Nat) (cs : List CV)
  | arr (e k : Nat) (xs : List (List DV))
  | frz (e k : Nat) (xs : List (List DV))
  | tab (l : List (Int × CV))
  deriving Inhabited

inductive DA where
  | one (x : DV)
  | agg (cs : List DV)
  deriving Inhabited

inductive RV where
  | one (x : DV)
  | agg (cs : List DV)
  | own (e k : Nat) (xs : List (List DV))
  deriving Inhabited

inductive TK where
  | plain
  | int (k : IntKind)
  | bool
  | str
  | struct (fs : List (Nat × Nat × Bool))
  | array (n e : Nat)
  | slice (e : Nat)
  | ptr (e : Nat)
  | map (k e : Nat)
  deriving Inhabited

structure TI where
  size : Nat
  bytes : Nat
  agg : Bool
  zero : List DV
  kind : TK
  deriving Inhabited

inductive LK where
  | i (k : IntKind) | b | s
  deriving DecidableEq, Inhabited

structure Cfg where
  ty : List (Nat × TI)
  eqs : List (Nat × List LK)
  call : Nat → List DA → Option (List RV)
  calls : List Nat
  scal : List Nat
  owns : List (Nat × List (Nat × Nat × Nat))
  vars : List Nat
  ores : List Nat
  flags : List (Nat × List Bool)
  pins : List (Nat × List Nat) := []
  inls : List Nat
  inl : Nat → List V1 → List Ob → Option (TV × List Ob)

@[simp] def Cfg.ti (C : Cfg) (t : Nat) : Option TI := C.ty.lookup t

@[simp] def I (n : Int) : DV := .sc (.int .i64 n)
@[simp] def B (b : Bool) : DV := .sc (.bool b)
@[simp] def S (s : ByteArray) : DV := .sc (.string s)

@[simp] def plainV : Value → Bool
  | .bool _ | .int _ _ | .float _ _ | .complex _ _ _ | .string _ | .pointer none | .nilFunc | .nilIface | .map none | .chan none => true
  | _ => false

@[simp] def cst : Value → Option TV
  | .agg cs => if cs.toList.all plainV then some (.v (.agg (cs.toList.map fun v => .d (.sc v)))) else none
  | .slice none 0 0 => some (.v (.one .nil))
  | .func (.func f) fs cs => match fs.toList, cs.toList with
    | [], [] => some (.v (.one (.clo f [] [])))
    | _, _ => none
  | v => if plainV v then some (.v (.one (.d (.sc v)))) else none

abbrev Env := List TV

@[simp] def rd (env : Env) : Operand → Option TV
  | .tmp t => env[t]?
  | .const v => cst v
  | .func f => some (.v (.one (.clo f [] [])))
  | _ => none

@[simp] def rd1 (env : Env) (x : Operand) : Option CV := match rd env x with | some (.v (.one c)) => some c | _ => none
@[simp] def rdS (env : Env) (x : Operand) : Option Value := match rd1 env x with | some (.d (.sc v)) => some v | _ => none
@[simp] def rdI (env : Env) (x : Operand) : Option Int := match rdS env x with | some (.int _ n) => some n | _ => none
@[simp] def rdB (env : Env) (x : Operand) : Option Bool := match rdS env x with | some (.bool b) => some b | _ => none

@[simp] def cellsOf : TV → Option (List CV)
  | .v (.one c) => some [c]
  | .v (.agg cs) => some cs
  | .tup _ => none
  | .unk => none

@[simp] def mk1 (agg : Bool) (cs : List CV) : Option TV :=
  if agg then some (.v (.agg cs)) else match cs with | [c] => some (.v (.one c)) | _ => none

@[simp] def sv (v : Value) : TV := .v (.one (.d (.sc v)))

@[simp] def binS : BinOp → Value → Value → Option Value
  | .add, .int k a, .int j b => if k = j then some (.int k (k.wrap (a + b))) else none
  | .sub, .int k a, .int j b => if k = j then some (.int k (k.wrap (a - b))) else none
  | .mul, .int k a, .int j b => if k = j then some (.int k (k.wrap (a * b))) else none
  | .quo, .int k a, .int j b => if k = j then if b = 0 then none else some (.int k (k.wrap (a.tdiv b))) else none
  | .rem, .int k a, .int j b => if k = j then if b = 0 then none else some (.int k (a.tmod b)) else none
  | .eql, .int k a, .int j b => if k = j then some (.bool (decide (a = b))) else none
  | .neq, .int k a, .int j b => if k = j then some (.bool (!decide (a = b))) else none
  | .lss, .int k a, .int j b => if k = j then some (.bool (decide (a < b))) else none
  | .leq, .int k a, .int j b => if k = j then some (.bool (decide (a ≤ b))) else none
  | .gtr, .int k a, .int j b => if k = j then some (.bool (decide (b < a))) else none
  | .geq, .int k a, .int j b => if k = j then some (.bool (decide (b ≤ a))) else none
  | .eql, .string a, .string b => some (.bool (decide (a = b)))
  | .neq, .string a, .string b => some (.bool (!decide (a = b)))
  | .add, .string a, .string b => if a.size + b.size ≤ 9223372036854775807 then some (.string (a ++ b)) else none
  | .shl, .int k a, .int _ b => if b < 0 then none else some (.int k (k.wrap (a * 2 ^ min b.toNat k.bits)))
  | .shr, .int k a, .int _ b => if b < 0 then none else some (.int k (a.fdiv (2 ^ min b.toNat k.bits)))
  | .or, .int k a, .int j b => if k = j then some (.int k (bits .or k a b)) else none
  | .and, .int k a, .int j b => if k = j then some (.int k (bits .and k a b)) else none
  | .xor, .int k a, .int j b => if k = j then some (.int k (bits .xor k a b)) else none
  | _, _, _ => none

@[simp] def eqCell : LK → CV → CV → Option Bool
  | .i k, .d (.sc (.int j a)), .d (.sc (.int l b)) => if j = k ∧ l = k then some (decide (a = b)) else none
  | .b, .d (.sc (.bool a)), .d (.sc (.bool b)) => some (a == b)
  | .s, .d (.sc (.string a)), .d (.sc (.string b)) => some (decide (a = b))
  | _, _, _ => none

@[simp] def eqCells : List LK → List CV → List CV → Option Bool
  | [], [], [] => some true
  | k :: ks, x :: xs, y :: ys => match eqCell k x y, eqCells ks xs ys with
    | some a, some b => some (a && b)
    | _, _ => none
  | _, _, _ => none

@[simp] def binA (C : Cfg) (op : BinOp) (t : Nat) (xs ys : List CV) : Option TV :=
  match C.eqs.lookup t with
  | some ks => match eqCells ks xs ys, op with
    | some b, .eql => some (sv (.bool b))
    | some b, .neq => some (sv (.bool (!b)))
    | _, _ => none
  | none => none

@[simp] def binB (op : BinOp) (t : Option TI) (a b : Bool) : Option TV :=
  match t with
  | some ti => match ti.kind, op with
    | .bool, .eql => some (sv (.bool (a == b)))
    | .bool, .neq => some (sv (.bool (!(a == b))))
    | _, _ => none
  | none => none

@[simp] def nilC : CV → Option CV
  | .nil => some (.d (.sc (.bool true)))
  | .d (.sl []) => some .unkB
  | .d (.sl (_ :: _)) => some (.d (.sc (.bool false)))
  | .own _ n => if 0 < n then some (.d (.sc (.bool false))) else some .unkB
  | .vw _ _ lo hi _ => if lo < hi then some (.d (.sc (.bool false))) else some .unkB
  | _ => none

@[simp] def binN (C : Cfg) (op : BinOp) (t : Nat) (c : CV) : Option TV :=
  match C.ti t, op with
  | some ti, .eql => match ti.kind with
    | .slice _ => (nilC c).map fun c => .v (.one c)
    | _ => none
  | _, _ => none

@[simp] def binV (C : Cfg) (op : BinOp) (t : Nat) (x y : TV) : Option TV :=
  match x, y with
  | .v (.one (.d (.sc (.bool a)))), .v (.one (.d (.sc (.bool b)))) => binB op (C.ti t) a b
  | .v (.one (.d (.sc a))), .v (.one (.d (.sc b))) => match binS op a b with
    | some v => some (sv v)
    | none => none
  | .v (.agg xs), .v (.agg ys) => binA C op t xs ys
  | .v (.one c), .v (.one .nil) => binN C op t c
  | _, _ => none

@[simp] def unS : UnOp → Value → Option Value
  | .not, .bool b => some (.bool !b)
  | .neg, .int k n => some (.int k (k.wrap (0 - n)))
  | _, _ => none

@[simp] def setRange (cells : List CV) (off : Nat) (news : List CV) : List CV := cells.take off ++ news ++ cells.drop (off + news.length)

@[simp] def fillC (C : Cfg) (place : Nat → Option (Nat × Nat)) (cells : List CV) : List (Nat × TV) → Option (List CV)
  | [] => some cells
  | (i, v) :: rest =>
    match place i, cellsOf v with
    | some (off, size), some cs => if cs.length = size ∧ off + size ≤ cells.length then fillC C place (setRange cells off cs) rest else none
    | _, _ => none

@[simp] def ddv : List DV → List CV := List.map .d

@[simp] def zcv : DV → CV
  | .sl [] => .nil
  | x => .d x

@[simp] def zcs : List DV → List CV := List.map zcv

@[simp] def buildV (C : Cfg) (t : Nat) (parts : List (Nat × TV)) : Option TV :=
  match C.ti t with
  | some ti =>
    match ti.kind with
    | .struct fs => (fillC C (fun i => (fs[i]?).map fun f => (f.1, f.2.1)) (zcs ti.zero) parts).map fun cs => .v (.agg cs)
    | .array n e =>
      match C.ti e with
      | some te => (fillC C (fun i => some (i * te.size, te.size)) (zcs ti.zero) parts).map fun cs => .v (.agg cs)
      | none => none
    | _ => none
  | none => none

@[simp] def evPick (c : Option Bool) (x y : Option TV) : Option TV :=
  match c with
  | some true => x
  | some false => y
  | none => none

@[simp] def rdPs (env : Env) : List (Nat × Operand) → Option (List (Nat × TV))
  | [] => some []
  | p :: ps => match rd env p.2, rdPs env ps with
    | some v, some vs => some ((p.1, v) :: vs)
    | _, _ => none

@[simp] def evConv (C : Cfg) (src dst : Nat) (x : Option TV) : Option TV :=
  match C.ti src, C.ti dst, x with
  | some _, some ti, some (.v (.one (.d (.sc (.int j n))))) => match ti.kind with
    | .int k => some (sv (.int k (k.wrap n)))
    | _ => none
  | some _, some ti, some (.v (.one (.d (.sc (.string s))))) => match ti.kind with
    | .str => some (sv (.string s))
    | _ => none
  | _, _, _ => none

@[simp] def evNilCheck (x : Option CV) : Option TV :=
  match x with
  | some (.ptr id n off) => some (.v (.one (.ptr id n off)))
  | some (.fp cs) => some (.v (.one (.fp cs)))
  | _ => none

@[simp] def TI.fs (t : TI) : List (Nat × Nat × Bool) := match t.kind with | .struct fs => fs | _ => []

@[simp] def evFieldAddr (ti : Option TI) (x : Option CV) (f : Nat) : Option TV :=
  match ti, x with
  | some ti, some (.ptr id n off) => match ti.fs[f]? with
    | some (o, sz, _) => if sz = 0 then none else some (.v (.one (.ptr id n (off + o))))
    | none => none
  | some ti, some (.fp cs) => match ti.fs[f]? with
    | some (o, sz, _) => if sz = 0 then none else some (.v (.one (.fp (cs.drop o))))
    | none => none
  | _, _ => none

@[simp] def evField (ti : Option TI) (x : Option TV) (f : Nat) : Option TV :=
  match ti, x with
  | some ti, some (.v (.agg cs)) => match ti.fs[f]? with
    | some (o, sz, ag) => if o + sz ≤ cs.length then mk1 ag ((cs.drop o).take sz) else none
    | none => none
  | _, _ => none

@[simp] def evIndexAddr (C : Cfg) (t : Nat) (x : Option CV) (i : Option Int) : Option TV :=
  match C.ti t, i with
  | some ti, some i => match ti.kind, x with
    | .slice e, some (.own id n) => match C.ti e with
      | some te => if 0 ≤ i ∧ i < n then some (.v (.one (.ptr id n (i.toNat * te.size)))) else none
      | none => none
    | .slice e, some (.d (.sl xs)) => match C.ti e with
      | some te => if 0 ≤ i then match xs[i.toNat]? with
          | some x => if x.length = te.size then some (.v (.one (.fp x))) else none
          | none => none
        else none
      | none => none
    | .array m e, some (.ptr id n off) => match C.ti e with
      | some te => if 0 ≤ i ∧ i < m then some (.v (.one (.ptr id n (off + i.toNat * te.size)))) else none
      | none => none
    | .slice e, some (.vw id n lo hi k) => match C.ti e with
      | some te => if te.size = k ∧ 0 ≤ i ∧ i < (hi : Int) - lo then some (.v (.one (.ptr id n ((lo + i.toNat) * te.size)))) else none
      | none => none
    | _, _ => none
  | _, _ => none

@[simp] def evIndex (C : Cfg) (t : Nat) (x : Option TV) (i : Option Int) : Option TV :=
  match C.ti t, i with
  | some ti, some i => match ti.kind, x with
    | .str, some (.v (.one (.d (.sc (.string s))))) => if 0 ≤ i then match s[i.toNat]? with
        | some b => some (sv (.int .u8 b.toNat))
        | none => none
      else none
    | .array m e, some (.v (.agg cs)) => match C.ti e with
      | some te => if 0 ≤ i ∧ i < m ∧ i.toNat * te.size + te.size ≤ cs.length then mk1 te.agg ((cs.drop (i.toNat * te.size)).take te.size) else none
      | none => none
    | _, _ => none
  | _, _ => none

@[simp] def evExtract (x : Option TV) (i : Nat) : Option TV :=
  match x with
  | some (.tup vs) => match vs[i]? with
    | some v => some (.v v)
    | none => none
  | _ => none

@[simp] def bound (env : Env) (x : Option Operand) (d : Int) : Option Int :=
  match x with
  | some x => rdI env x
  | none => some d

@[simp] def evSlice (C : Cfg) (t : Nat) (x : Option CV) (lo hi mx : Int → Option Int) (nomx : Bool) : Option TV :=
  match C.ti t, x with
  | some ti, some (.d (.sc (.string s))) => match ti.kind, lo 0, hi s.size, nomx with
    | .str, some l, some h, true => if 0 ≤ l ∧ l ≤ h ∧ h ≤ s.size then some (sv (.string (s.extract l.toNat h.toNat))) else none
    | _, _, _, _ => none
  | some ti, some (.d (.sl xs)) => match ti.kind, lo 0, hi xs.length, mx xs.length with
    | .slice e, some l, some h, some m => match C.ti e with
      | some te => if 0 ≤ l ∧ l ≤ h ∧ h ≤ m ∧ m ≤ xs.length ∧ xs.all (fun x => decide (x.length = te.size)) then some (.v (.one (.d (.sl ((xs.take h.toNat).drop l.toNat))))) else none
      | none => none
    | _, _, _, _ => none
  | some ti, some (.own id n) => match ti.kind, lo 0, hi n, nomx with
    | .slice e, some l, some h, true => match C.ti e with
      | some te => if 0 ≤ l ∧ l ≤ h ∧ h ≤ n then some (.v (.one (.vw id n l.toNat h.toNat te.size))) else none
      | none => none
    | _, _, _, _ => none
  | some ti, some (.vw id n lo0 hi0 k) => match ti.kind, lo 0, hi ((hi0 : Int) - lo0), nomx with
    | .slice e, some l, some h, true => match C.ti e with
      | some te => if te.size = k ∧ 0 ≤ l ∧ l ≤ h ∧ h ≤ (hi0 : Int) - lo0 then some (.v (.one (.vw id n (lo0 + l.toNat) (lo0 + h.toNat) k))) else none
      | none => none
    | _, _, _, _ => none
  | _, _ => none

@[simp] def evLen (ti : Option TI) (x : Option CV) : Option TV :=
  match ti, x with
  | some ti, some c => match ti.kind, c with
    | .slice _, .own _ n => some (sv (.int .i64 n))
    | .slice _, .vw _ _ lo hi _ => some (sv (.int .i64 ((hi : Int) - lo)))
    | .slice _, .d (.sl xs) => some (sv (.int .i64 xs.length))
    | .slice _, .nil => some (sv (.int .i64 0))
    | .str, .d (.sc (.string s)) => some (sv (.int .i64 s.size))
    | _, _ => none
  | _, _ => none

def evMM (mx : Bool) (x y : Option Value) : Option TV :=
  match x, y with
  | some (.int .i64 a), some (.int .i64 b) => some (sv (.int .i64 (if mx then (if a < b then b else a) else (if b < a then b else a))))
  | _, _ => none

@[simp] def evUSD (x : Option CV) : Option TV :=
  match x with
  | some (.own id n) => if 0 < n then some (.v (.one (.ptr id n 0))) else none
  | _ => none

@[simp] def evBuiltin (C : Cfg) (env : Env) (b : Builtin) (as : List Operand) (ts : List Nat) : Option TV :=
  match b, as, ts with
  | .len, [x], [t] => evLen (C.ti t) (rd1 env x)
  | .max, [x, y], _ => evMM true (rdS env x) (rdS env y)
  | .min, [x, y], _ => evMM false (rdS env x) (rdS env y)
  | .unsafeSliceData, [x], _ => evUSD (rd1 env x)
  | _, _, _ => none

@[simp] def rdPtrs (env : Env) : List Operand → Option (List (Nat × Nat))
  | [] => some []
  | x :: xs => match rd1 env x, rdPtrs env xs with
    | some (.ptr id 0 off), some l => some ((id, off) :: l)
    | _, _ => none

@[simp] def ptrV (p : Nat × Nat) : V1 := .one (.ptr p.1 0 p.2)

@[simp] def evMakeFunc (env : Env) (f : Fn) (fs cs : List Operand) : Option TV :=
  match f, rdPtrs env fs, rdPtrs env cs with
  | .func f, some a, some b => some (.v (.one (.clo f a b)))
  | _, _, _ => none

@[simp] def evBlind (C : Cfg) (o : Oper) (env : Env) : Option TV :=
  match o.op with
  | .move x => rd env x
  | .assign x => rd env x
  | .pick c x y => evPick (rdB env c) (rd env x) (rd env y)
  | .build t ps => match rdPs env ps.toList with
    | some parts => buildV C t parts
    | none => none
  | .binOp op t x y _ => match rd env x, rd env y with
    | some a, some b => binV C op t a b
    | _, _ => none
  | .unOp op _ x => match rdS env x with
    | some a => match unS op a with
      | some v => some (sv v)
      | none => none
    | none => none
  | .convert src dst x => evConv C src dst (rd env x)
  | .nilCheck x => evNilCheck (rd1 env x)
  | .fieldAddr s x f => evFieldAddr (C.ti s) (rd1 env x) f
  | .field s x f => evField (C.ti s) (rd env x) f
  | .indexAddr t x i => evIndexAddr C t (rd1 env x) (rdI env i)
  | .index t x i => evIndex C t (rd env x) (rdI env i)
  | .extract x i => evExtract (rd env x) i
  | .slice t x lo hi mx => if mx.isSome && hi.isNone then none else evSlice C t (rd1 env x) (bound env lo) (bound env hi) (bound env mx) mx.isNone
  | .call c => match c.callee with
    | .builtin b => evBuiltin C env b c.args.toList c.argTypes.toList
    | _ => none
  | .makeFunc f fs cs => evMakeFunc env f fs.toList cs.toList
  | _ => none

abbrev Objs := List Ob

@[simp] def toDV (objs : Objs) : CV → Option DV
  | .d x => some x
  | .nil => some (.sl [])
  | .own id n => match objs[id]? with
    | some (.arr _ _ xs) => if xs.length = n then some (.sl xs) else none
    | some (.frz _ _ xs) => if xs.length = n then some (.sl xs) else none
    | _ => none
  | .vw id n lo hi k => match objs[id]? with
    | some (.arr _ k' xs) => if xs.length = n ∧ k' = k ∧ lo ≤ hi ∧ hi ≤ n then some (.sl ((xs.take hi).drop lo)) else none
    | some (.frz _ k' xs) => if xs.length = n ∧ k' = k ∧ lo ≤ hi ∧ hi ≤ n then some (.sl ((xs.take hi).drop lo)) else none
    | _ => none
  | _ => none

@[simp] def toDVs (objs : Objs) : List CV → Option (List DV)
  | [] => some []
  | c :: cs => match toDV objs c, toDVs objs cs with
    | some x, some xs => some (x :: xs)
    | _, _ => none

@[simp] def frz1 (objs : Objs) : CV → Objs
  | .own id _ => match objs[id]? with
    | some (.arr e k xs) => objs.set id (.frz e k xs)
    | _ => objs
  | .vw id _ _ _ _ => match objs[id]? with
    | some (.arr e k xs) => objs.set id (.frz e k xs)
    | _ => objs
  | _ => objs

@[simp] def frzs (objs : Objs) (cs : List CV) : Objs := cs.foldl frz1 objs

@[simp] def v1cells : V1 → List CV
  | .one c => [c]
  | .agg cs => cs

@[simp] def toDA (objs : Objs) : V1 → Option DA
  | .one c => (toDV objs c).map .one
  | .agg cs => (toDVs objs cs).map .agg

@[simp] def toDAs (objs : Objs) : List V1 → Option (List DA)
  | [] => some []
  | v :: vs => match toDA objs v, toDAs objs vs with
    | some x, some xs => some (x :: xs)
    | _, _ => none

@[simp] def ofRVs : List RV → Objs → List V1 × Objs
  | [], objs => ([], objs)
  | .one x :: rs, objs => (.one (.d x) :: (ofRVs rs objs).1, (ofRVs rs objs).2)
  | .agg cs :: rs, objs => (.agg (ddv cs) :: (ofRVs rs objs).1, (ofRVs rs objs).2)
  | .own e k xs :: rs, objs => (.one (.own objs.length xs.length) :: (ofRVs rs (objs ++ [.arr e k xs])).1, (ofRVs rs (objs ++ [.arr e k xs])).2)

@[simp] def packV : List V1 → TV
  | [x] => .v x
  | vs => .tup vs

@[simp] def loadC (objs : Objs) (size : Nat) : CV → Option (List CV)
  | .ptr id n off => match objs[id]? with
    | some (.box _ cs) => if off + size ≤ cs.length then some ((cs.drop off).take size) else none
    | some (.arr _ k xs) => if xs.length = n ∧ k ≠ 0 then match xs[off / k]? with
      | some x => if off % k + size ≤ x.length then some (ddv ((x.drop (off % k)).take size)) else none
      | none => none
      else none
    | some (.frz _ k xs) => if xs.length = n ∧ k ≠ 0 then match xs[off / k]? with
      | some x => if off % k + size ≤ x.length then some (ddv ((x.drop (off % k)).take size)) else none
      | none => none
      else none
    | _ => none
  | .fp cs => if size ≤ cs.length then some (ddv (cs.take size)) else none
  | _ => none

@[simp] def setRangeD (cells : List DV) (off : Nat) (news : List DV) : List DV := cells.take off ++ news ++ cells.drop (off + news.length)

@[simp] def storeC (objs : Objs) (p : CV) (cs : List CV) : Option Objs :=
  match p with
  | .ptr id n off => match objs[id]? with
    | some (.box t old) => if off + cs.length ≤ old.length then some (objs.set id (.box t (setRange old off cs))) else none
    | some (.arr _ _ _) => match (frzs objs cs)[id]?, toDVs objs cs with
      | some (.arr e k xs), some ds => if xs.length = n ∧ k ≠ 0 then
          match xs[off / k]? with
          | some x => if off % k + ds.length ≤ x.length then some ((frzs objs cs).set id (.arr e k (xs.set (off / k) (setRangeD x (off % k) ds)))) else none
          | none => none
        else none
      | _, _ => none
    | _ => none
  | _ => none

def bytesOf (s : ByteArray) : List (List DV) := s.data.toList.map fun b => [.sc (.int .u8 b.toNat)]

def strOf : List (List DV) → Option (List Int)
  | [] => some []
  | [.sc (.int .u8 n)] :: xs => match strOf xs with
    | some l => some (n :: l)
    | none => none
  | _ => none

def roomB (n bytes : Nat) : Bool := decide (n * bytes ≤ 140737488355328)

@[simp] def isOwn : CV → Bool
  | .own _ _ => true
  | .vw _ _ _ _ _ => true
  | _ => false

@[simp] def DV.scal : DV → Bool
  | .sc _ => true
  | .sl _ => false

@[simp] def RV.scal : RV → Bool
  | .one x => x.scal
  | .agg cs => cs.all DV.scal
  | .own _ _ _ => false

@[simp] def RV.isOwn : RV → Bool
  | .own _ _ _ => true
  | _ => false

@[simp] def retV (rs : List RV) (objs : Objs) : TV × Objs := (packV (ofRVs rs objs).1, (ofRVs rs objs).2)

@[simp] def callV (C : Cfg) (strict : Bool) (f : Nat) (args : List V1) (objs : Objs) : Option (TV × Objs) :=
  match toDAs objs args with
  | some das =>
    match C.call f das with
    | some rs =>
      if strict && rs.any RV.isOwn then none
      else if C.scal.contains f then if rs.all RV.scal then some (retV rs objs) else none
      else if strict && (args.flatMap v1cells).any isOwn then none
      else some (retV rs (frzs objs (args.flatMap v1cells)))
    | none => none
  | none => none

@[simp] def ownCs : List (Nat × Nat × Nat) → List CV → Objs → List CV × Objs
  | [], cs, objs => (cs, objs)
  | (i, e, k) :: l, cs, objs => match cs[i]?, decide (0 < k) with
    | some .nil, true => ownCs l (cs.set i (.own objs.length 0)) (objs ++ [.arr e k []])
    | some .nil, false => ownCs l (cs.set i (.d (.sl []))) objs
    | _, _ => ownCs l cs objs

@[simp] def ownsOf (C : Cfg) (d : Option Nat) : List (Nat × Nat × Nat) := match d with
  | some d => (C.owns.lookup d).getD []
  | none => []

@[simp] def ownV (l : List (Nat × Nat × Nat)) (v : TV) (objs : Objs) : TV × Objs :=
  match l, v with
  | (_, e, k) :: _, .v (.one .nil) => if 0 < k then (.v (.one (.own objs.length 0)), objs ++ [.arr e k []]) else (.v (.one (.d (.sl []))), objs)
  | l, .v (.agg cs) => (.v (.agg (ownCs l cs objs).1), (ownCs l cs objs).2)
  | _, v => (v, objs)

@[simp] def evAlloc (l : List (Nat × Nat × Nat)) (t : Nat) (ti : Option TI) (objs : Objs) : Option (TV × Objs) :=
  match ti with
  | some ti => some (.v (.one (.ptr (ownCs l (zcs ti.zero) objs).2.length 0 0)), (ownCs l (zcs ti.zero) objs).2 ++ [.box t (ownCs l (zcs ti.zero) objs).1])
  | none => none

@[simp] def evBox (t : Nat) (ti : Option TI) (x : Option TV) (objs : Objs) : Option (TV × Objs) :=
  match ti, x with
  | some ti, some v => match cellsOf v with
    | some cs => if cs.length = ti.size then some (.v (.one (.ptr objs.length 0 0)), objs ++ [.box t cs]) else none
    | none => none
  | _, _ => none

@[simp] def evLoad (ti : Option TI) (p : Option CV) (objs : Objs) : Option (TV × Objs) :=
  match ti, p with
  | some ti, some c => match loadC objs ti.size c with
    | some cs => match mk1 ti.agg cs with
      | some v => some (v, objs)
      | none => none
    | none => none
  | _, _ => none

@[simp] def evStore (ti : Option TI) (p : Option CV) (x : Option TV) (objs : Objs) : Option (TV × Objs) :=
  match ti, p, x with
  | some ti, some c, some v => match cellsOf v with
    | some cs => if cs.length = ti.size then match storeC objs c cs with
        | some objs' => some (.tup [], objs')
        | none => none
      else none
    | none => none
  | _, _, _ => none

@[simp] def rdCs (env : Env) : List (Nat × Operand) → Option (List (List CV))
  | [] => some []
  | p :: ps => match rd env p.2, rdCs env ps with
    | some v, some vs => match cellsOf v with
      | some cs => some (cs :: vs)
      | none => none
    | _, _ => none

@[simp] def toDVss (objs : Objs) : List (List CV) → Option (List (List DV))
  | [] => some []
  | c :: cs => match toDVs objs c, toDVss objs cs with
    | some x, some xs => some (x :: xs)
    | _, _ => none

@[simp] def evBuildSlice (C : Cfg) (strict : Bool) (env : Env) (t len : Nat) (ps : List (Nat × Operand)) (objs : Objs) : Option (TV × Objs) :=
  match C.ti t, rdCs env ps with
  | some ti, some css => match ti.kind with
    | .slice e => match C.ti e with
      | some te =>
        if ps.map (·.1) = List.range len ∧ css.all (fun cs => decide (cs.length = te.size)) ∧ len * te.size ≤ 16777216 ∧ 0 < te.size then
          if len = 0 ∧ strict = false then some (.v (.one (.own objs.length 0)), objs ++ [.arr e te.size []])
          else match toDVss objs css with
            | some xs => if strict && css.any (·.any isOwn) then none else some (.v (.one (.d (.sl xs))), frzs objs css.flatten)
            | none => none
        else none
      | none => none
    | _ => none
  | _, _ => none

@[simp] def evMake (C : Cfg) (t : Nat) (l c : Option Int) (objs : Objs) : Option (TV × Objs) :=
  match C.ti t, l, c with
  | some ti, some n, some m => match ti.kind with
    | .slice e => match C.ti e with
      | some te => if n = m ∧ 0 ≤ n ∧ n * te.bytes ≤ 140737488355328 ∧ 0 < te.size ∧ te.zero.length = te.size ∧ n ≤ 16777216 then
          some (.v (.one (.own objs.length n.toNat)), objs ++ [.arr e te.size (List.replicate n.toNat te.zero)]) else none
      | none => none
    | _ => none
  | _, _, _ => none

@[simp] def evAppend (C : Cfg) (t u : Nat) (s x : Option CV) (objs : Objs) : Option (TV × Objs) :=
  match C.ti t, s, x with
  | some ti, some (.own id n), some cx => match ti.kind with
    | .slice e => match C.ti e, (frz1 objs cx)[id]?, toDV objs cx with
      | some te, some (.arr e' k xs), some (.sl ys) =>
        if t = u ∧ xs.length = n ∧ e' = e ∧ k = te.size ∧ (xs.length + ys.length) * te.bytes ≤ 140737488355328 ∧ 0 < te.bytes ∧ ys.all (fun y => decide (y.length = k)) then
          if ys.length = 0 then some (.v (.one (.own id n)), frz1 objs cx)
          else some (.v (.one (.own id (xs.length + ys.length))), (frz1 objs cx).set id (.arr e k (xs ++ ys)))
        else none
      | _, _, _ => none
    | _ => none
  | _, _, _ => none

@[simp] def isStr : Option CV → Bool
  | some (.d (.sc (.string _))) => true
  | _ => false

@[simp] def evAppendS (C : Cfg) (t u : Nat) (s x : Option CV) (objs : Objs) : Option (TV × Objs) :=
  match C.ti t, C.ti u, s, x with
  | some ti, some tu, some (.own id n), some (.d (.sc (.string str))) => match ti.kind, tu.kind with
    | .slice e, .str => match C.ti e, objs[id]? with
      | some te, some (.arr e' k xs) =>
        if xs.length = n ∧ e' = e ∧ k = 1 ∧ te.size = 1 ∧ te.bytes = 1 ∧ xs.length + str.size ≤ 140737488355328 then
          some (.v (.one (.own id (xs.length + str.size))), objs.set id (.arr e 1 (xs ++ bytesOf str)))
        else none
      | _, _ => none
    | _, _ => none
  | _, _, _, _ => none

def txL : List (List DV) → Option (List UInt8)
  | [] => some []
  | [.sc (.int .u8 n)] :: xs => if 0 ≤ n ∧ n < 256 then (txL xs).map (UInt8.ofNat n.toNat :: ·) else none
  | _ => none
def txt (xs : List (List DV)) : Option ByteArray := (txL xs).map fun l => ⟨l.toArray⟩

@[simp] def evUStr (C : Cfg) (t : Nat) (p : Option CV) (m : Option Value) (objs : Objs) : Option (TV × Objs) :=
  match C.ti t, p, m with
  | some tp, some (.ptr id n off), some (.int .i64 m) => match tp.kind, objs[id]? with
    | .ptr e, some (.arr e' k xs) => match C.ti e, txt xs with
      | some te, some s => if off = 0 ∧ e' = e ∧ k = 1 ∧ te.size = 1 ∧ xs.length = n ∧ m = (n : Int) ∧ 0 < n ∧ n ≤ 140737488355328 then some (sv (.string s), objs.set id .nil) else none
      | _, _ => none
    | _, _ => none
  | _, _, _ => none

@[simp] def evClear (C : Cfg) (t : Nat) (x : Option CV) (objs : Objs) : Option (TV × Objs) :=
  match C.ti t, x with
  | some ti, some (.vw id n lo hi k) => match ti.kind with
    | .slice e => match C.ti e, objs[id]? with
      | some te, some (.arr e' k' xs) =>
        if e' = e ∧ k' = te.size ∧ k = te.size ∧ xs.length = n ∧ lo ≤ hi ∧ hi ≤ n ∧ te.zero.length = te.size ∧ 0 < te.size then
          some (.tup [], objs.set id (.arr e' k' (xs.take lo ++ List.replicate (hi - lo) te.zero ++ xs.drop hi)))
        else none
      | _, _ => none
    | _ => none
  | _, _ => none

@[simp] def rdVs (env : Env) : List Operand → Option (List V1)
  | [] => some []
  | x :: xs => match rd env x, rdVs env xs with
    | some (.v v), some vs => some (v :: vs)
    | _, _ => none

@[simp] def evCall (C : Cfg) (strict : Bool) (env : Env) (c : Call) (objs : Objs) : Option (TV × Objs) :=
  match c.callee, c.args.toList, c.argTypes.toList with
  | .builtin .append, [s, x], [t, u] => if strict then none else if isStr (rd1 env x) then evAppendS C t u (rd1 env s) (rd1 env x) objs else evAppend C t u (rd1 env s) (rd1 env x) objs
  | .builtin .clear, [x], [t] => if strict then none else evClear C t (rd1 env x) objs
  | .builtin .unsafeString, [p, m], [t, _] => if strict then none else evUStr C t (rd1 env p) (rdS env m) objs
  | .value (.func f), as, _ => if C.calls.contains f then match rdVs env as with
      | some vs => callV C strict f vs objs
      | none => none
    else if C.inls.contains f then match strict, rdVs env as with
      | false, some vs => C.inl f vs objs
      | _, _ => none
    else none
  | .value (.tmp t), as, _ => match strict, rd1 env (.tmp t), rdVs env as with
    | false, some (.clo f fs cs), some vs =>
      if C.inls.contains f then C.inl f (fs.map ptrV ++ vs ++ cs.map ptrV) objs
      else if C.calls.contains f ∧ fs = [] ∧ cs = [] then callV C strict f vs objs
      else none
    | _, _, _ => none
  | _, _, _ => none

def rowsOf (k : Nat) : Nat → List DV → List (List DV)
  | 0, _ => []
  | n + 1, l => l.take k :: rowsOf k n (l.drop k)

@[simp] def evSliceArr (C : Cfg) (t : Nat) (x : Option CV) (lo hi : Int → Option Int) (nomx : Bool) (objs : Objs) : Option (TV × Objs) :=
  match C.ti t, x with
  | some ti, some (.ptr id n off) => match ti.kind, nomx with
    | .array m e, true => match C.ti e, objs[id]?, lo 0, hi m with
      | some te, some (.box _ cs), some l, some h => match toDVs [] cs with
        | some ds => if off = 0 ∧ n = 0 ∧ ds.length = m * te.size ∧ 0 < te.size ∧ m ≤ 1000000 ∧ 0 ≤ l ∧ l ≤ h ∧ h ≤ m then
            some (.v (.one (.d (.sl (((rowsOf te.size m ds).take h.toNat).drop l.toNat)))), objs.set id .nil) else none
        | none => none
      | _, _, _, _ => none
    | _, _ => none
  | _, _ => none

@[simp] def evText (C : Cfg) (src dst : Nat) (x : Option CV) (objs : Objs) : Option (TV × Objs) :=
  match C.ti src, C.ti dst, x with
  | some ts, some td, some cx => match ts.kind, td.kind with
    | .slice e, .str => match (C.ti e).map TI.kind, toDV objs cx with
      | some (.int .u8), some (.sl xs) => match strOf xs with
        | some l => some (sv (.string (strOfNums l)), objs)
        | none => none
      | _, _ => none
    | .str, .slice e => match (C.ti e).map TI.kind, cx with
      | some (.int .u8), .d (.sc (.string s)) => some (.v (.one (.d (.sl (bytesOf s)))), objs)
      | _, _ => none
    | _, _ => none
  | _, _, _ => none

@[simp] def evMakeMap (ti : Option TI) (objs : Objs) : Option (TV × Objs) :=
  match ti with
  | some ti => match ti.kind with
    | .map _ _ => some (.v (.one (.mp objs.length)), objs ++ [.tab []])
    | _ => none
  | none => none

@[simp] def tget (n : Int) : List (Int × CV) → Option CV
  | [] => none
  | p :: ps => if n = p.1 then some p.2 else tget n ps

@[simp] def evTput (C : Cfg) (t : Nat) (m : Option CV) (k : Option Value) (x : Option CV) (objs : Objs) : Option (TV × Objs) :=
  match C.ti t, m, k, x with
  | some ti, some (.mp id), some (.int .i64 n), some c => match ti.kind, objs[id]? with
    | .map kt _, some (.tab l) => match (C.ti kt).map TI.kind, tget n l with
      | some (.int .i64), none => some (.tup [], objs.set id (.tab (l ++ [(n, c)])))
      | _, _ => none
    | _, _ => none
  | _, _, _, _ => none

@[simp] def evTget (C : Cfg) (t : Nat) (m : Option CV) (k : Option Value) (ok : Bool) (objs : Objs) : Option (TV × Objs) :=
  match C.ti t, m, k with
  | some ti, some (.mp id), some (.int .i64 n) => match ti.kind, objs[id]? with
    | .map kt _, some (.tab l) => match (C.ti kt).map TI.kind with
      | some (.int .i64) => match tget n l with
        | some c => some (if ok then .tup [.one c, .one (.d (.sc (.bool true)))] else .v (.one c), objs)
        | none => some (if ok then .tup [.one (.d (.sc .nilFunc)), .one (.d (.sc (.bool false)))] else .v (.one (.d (.sc .nilFunc))), objs)
      | _ => none
    | _, _ => none
  | _, _, _ => none

@[simp] def evLoud (C : Cfg) (strict : Bool) (o : Oper) (env : Env) (objs : Objs) : Option (TV × Objs) :=
  match o.op with
  | .alloc t => if strict then none else evAlloc (ownsOf C o.dst) t (C.ti t) objs
  | .box t x => if strict then none else evBox t (C.ti t) (rd env x) objs
  | .load t p => evLoad (C.ti t) (rd1 env p) objs
  | .store t p x => if strict then none else evStore (C.ti t) (rd1 env p) (rd env x) objs
  | .buildSlice t len ps => evBuildSlice C strict env t len ps.toList objs
  | .makeSlice t l c => if strict then none else evMake C t (rdI env l) (rdI env c) objs
  | .call c => evCall C strict env c objs
  | .convert src dst x => evText C src dst (rd1 env x) objs
  | .slice t x lo hi mx => if strict then none else evSliceArr C t (rd1 env x) (bound env lo) (bound env hi) mx.isNone objs
  | .makeMap t r => if strict || r.isSome then none else evMakeMap (C.ti t) objs
  | .insert t m k x => if strict then none else evTput C t (rd1 env m) (rdS env k) (rd1 env x) objs
  | .mapUpdate t m k x => if strict then none else evTput C t (rd1 env m) (rdS env k) (rd1 env x) objs
  | .lookup t m k ok => if strict then none else evTget C t (rd1 env m) (rdS env k) ok objs
  | _ => none

@[simp] def evOp (C : Cfg) (strict : Bool) (o : Oper) (env : Env) (objs : Objs) : Option (TV × Objs) :=
  match strict, (match evBlind C o env with
    | some v => some (v, objs)
    | none => evLoud C strict o env objs) with
  | false, some (v, objs') => some (ownV (ownsOf C o.dst) v objs')
  | _, r => r

@[simp] def guardOf (ops : Array Oper) (env : Env) (o : Oper) : Option Bool :=
  match o.guard with
  | none => some true
  | some (j, b) => match (ops[j]?).bind (·.dst) with
    | some t => match env[t]? with
      | some (.v (.one (.d (.sc (.bool c))))) => some (c == b)
      | some (.tup []) => some false
      | _ => none
    | none => none

@[simp] def putE (env : Env) (dst : Option Nat) (v : TV) : Env := match dst with | some t => env.set t v | none => env

@[simp] def evOne (C : Cfg) (strict : Bool) (ops : Array Oper) (o : Oper) (env : Env) (objs : Objs) : Option (Env × Objs) :=
  match guardOf ops env o with
  | some true => match evOp C strict o env objs with
    | some (v, objs') => some (putE env o.dst v, objs')
    | none => none
  | some false => some (putE env o.dst (.tup []), objs)
  | none => none

@[simp] def evOps (C : Cfg) (ops : Array Oper) : List Bool → List Oper → Env → Objs → Option (Env × Objs)
  | _, [], env, objs => some (env, objs)
  | fl, o :: os, env, objs => match evOne C (fl.headD false) ops o env objs with
    | some (env', objs') => evOps C ops fl.tail os env' objs'
    | none => none

@[simp] def flagsOf (C : Cfg) (id : Nat) (draw : Bool) : List Bool := if draw then (C.flags.lookup id).getD [] else []

@[simp] def pinsOf (C : Cfg) (id : Nat) (draw : Bool) : List Nat := if draw then (C.pins.lookup id).getD [] else []

def okT (cs : List (Nat × Bool)) (g : Bool) : Operand → Bool
  | .tmp t => cs.all fun p => p.1 != t || (!g || p.2)
  | _ => true
def okO (cs : List (Nat × Bool)) (g : Bool) (o : Oper) : Bool := cs.isEmpty || o.op.operands.toList.all (okT cs g)
def dstOk (cs : List (Nat × Bool)) : Option Nat → Bool
  | some t => cs.all fun p => p.1 != t
  | none => true
def addG (cs : List (Nat × Bool)) (g : Bool) : Option Nat → List (Nat × Bool)
  | some t => (t, g) :: cs
  | none => cs
def evG (C : Cfg) (cs : List (Nat × Bool)) (g strict : Bool) (o : Oper) (env : Env) (objs : Objs) : Option (TV × Objs) :=
  match o.op with
  | .pick c x y => match rdB env c, rdB env x, rdB env y with
    | some cv, some a, some b => if okT cs g c && okT cs (g && cv) x && okT cs (g && !cv) y then some (sv (.bool (bif cv then a else b)), objs) else none
    | _, _, _ => if okO cs g o then evOp C strict o env objs else none
  | _ => if okO cs g o then evOp C strict o env objs else none
def guardG (ops : Array Oper) (cs : List (Nat × Bool)) (env : Env) (j : Nat) (v : Bool) : Option Bool :=
  match (ops[j]?).bind (·.dst) with
  | some t => match env[t]? with
    | some (.v (.one (.d (.sc (.bool c))))) => some ((cs.all fun p => p.1 != t || p.2) && (c == v))
    | _ => none
  | none => none
def dropG (cs : List (Nat × Bool)) (env : Env) : Env := cs.foldr (fun p e => e.set p.1 .unk) env

def evOpsG (C : Cfg) (ops : Array Oper) : List (Nat × Bool) → List Oper → Env → Objs → Option (Env × Objs)
  | cs, [], env, objs => some (dropG cs env, objs)
  | cs, o :: os, env, objs => if dstOk cs o.dst = true then match o.guard with
    | none => (evG C cs true false o env objs).bind fun r => evOpsG C ops cs os (putE env o.dst r.1) r.2
    | some (j, v) => (guardG ops cs env j v).bind fun g => (evG C cs g true o env objs).bind fun r => evOpsG C ops (addG cs g o.dst) os (putE env o.dst r.1) r.2
    else none

@[simp] def pinOne (t : Nat) (env : Env) (objs : Objs) : Option (Env × Objs) :=
  match rd1 env (.tmp t) with
  | some (.ptr id 0 0) => match objs[id]? with
    | some (.box _ cs) => match toDVs objs cs with
      | some ds => some (env.set t (.v (.one (.fp ds))), (frzs objs cs).set id .nil)
      | none => none
    | _ => none
  | some (.fp _) => some (env, objs)
  | _ => none

@[simp] def pinAll : List Nat → Env → Objs → Option (Env × Objs)
  | [], env, objs => some (env, objs)
  | t :: ts, env, objs => if 1000000 ≤ t then pinAll ts env objs else match pinOne t env objs with
    | some (env', objs') => pinAll ts env' objs'
    | none => none

@[simp] def cLt (n : Nat) : CV → Bool
  | .own id _ => decide (id < n)
  | .ptr id _ _ => decide (id < n)
  | .vw id _ lo hi _ => decide (id < n) || (!decide (lo = 0) && !decide (lo < hi))
  | .clo _ fs cs => fs.all (fun p => decide (p.1 < n)) && cs.all (fun p => decide (p.1 < n))
  | .mp id => decide (id < n)
  | _ => true
@[simp] def v1Lt (n : Nat) : V1 → Bool
  | .one c => cLt n c
  | .agg cs => cs.all (cLt n)
@[simp] def vLt (n : Nat) : TV → Bool
  | .v x => v1Lt n x
  | .tup xs => xs.all (v1Lt n)
  | .unk => true

@[simp] def chkP (ops : Array Oper) (n : Nat) (ps : List Nat) (env : Env) : Bool := ps.all fun t => !decide (1000000 ≤ t) || (ops.toList.take (t - 1000000)).all fun o => match o.dst with
  | some d => (match env[d]? with | some x => vLt n x | none => true)
  | none => true

@[simp] def thenP (ops : Array Oper) (n : Nat) (ps : List Nat) (r : Option (Env × Objs)) : Option (Env × Objs) :=
  if ps.all (fun t => !decide (1000000 ≤ t)) = true then r else r.bind fun q => if chkP ops n ps q.1 = true then some q else none

def evReg (C : Cfg) (id : Nat) (ops : Array Oper) (draw : Bool) (env : Env) (objs : Objs) : Option (Env × Objs) :=
  if (!draw && C.vars.contains 999999) = true then evOpsG C ops [] ops.toList env objs
  else (pinAll (pinsOf C id draw) env objs).bind fun p => thenP ops p.2.length (pinsOf C id draw) (evOps C ops (flagsOf C id draw) ops.toList p.1 p.2)

def dep (ops : Array Oper) : Nat → Nat → Nat → Bool
  | 0, _, _ => false
  | n + 1, j, i => match ops[j]? with
    | some o => o.after.toList.any fun e => Region.binds .any e && (e.on == i || dep ops n e.on i)
    | none => false

def blindOp : Op → Bool
  | .move _ | .assign _ | .pick .. | .build .. | .binOp .. | .unOp .. | .nilCheck _ | .fieldAddr .. | .field .. | .indexAddr .. | .index .. | .extract .. | .slice .. | .makeFunc .. => true
  | .call c => match c.callee with | .builtin .append => false | .builtin .clear => false | .builtin .unsafeString => false | .builtin _ => true | _ => false
  | _ => false

def allocOp : Op → Bool
  | .alloc _ => true
  | _ => false

def opAt (ops : Array Oper) (i : Nat) (f : Oper → Bool) : Bool := match ops[i]? with | some o => f o | none => true

def fpT (fl : List Bool) (ps : List Nat) (ops : Array Oper) : Nat → Nat → Nat → Bool
  | 0, _, _ => false
  | n + 1, j, t => (ps.contains t && !decide (1000000 ≤ t) && ops.toList.all fun p => p.dst != some t) ||
    (List.range j).any fun i => match ops[i]? with
      | some o => o.dst == some t && o.guard.isNone && (fl.drop i).headD false && ((List.range ops.size).all fun k => k == i || opAt ops k fun p => p.dst != some t) &&
        (match o.op with
          | .move (.tmp u) => fpT fl ps ops n i u
          | .nilCheck (.tmp u) => fpT fl ps ops n i u
          | .fieldAddr _ (.tmp u) _ => fpT fl ps ops n i u
          | _ => false)
      | none => false

def pinL (fl : List Bool) (ps : List Nat) (ops : Array Oper) (k : Nat) : Bool :=
  (fl.drop k).headD false && match ops[k]? with
    | some o => match o.op with
      | .load _ (.tmp t) => fpT fl ps ops 20 k t
      | .buildSlice .. => true
      | _ => false
    | none => false

def ordOk (fl : List Bool) (ps : List Nat) (ops : Array Oper) (i : Nat) : Bool :=
  opAt ops i (fun o => !blindOp o.op) && (List.range ops.size).all fun k =>
    if i < k then opAt ops k (fun o => blindOp o.op) || dep ops ops.size k i || pinL fl ps ops k || (ps.contains (1000000 + i) && k == i + 1)
    else if k < i then opAt ops k (fun o => blindOp o.op) || dep ops ops.size i k || opAt ops i (fun o => allocOp o.op) || pinL fl ps ops k
    else true

def pairOk (C : Cfg) (fl : List Bool) (ops : Array Oper) (p : Nat) : Bool :=
  (match ops[p]?, ops[p + 1]? with
    | some o, some q => allocOp o.op && allocOp q.op && o.guard.isNone && q.guard.isNone && o.after.toList.isEmpty && q.after.toList.isEmpty && (ownsOf C o.dst).isEmpty && (ownsOf C q.dst).isEmpty && !(fl.drop p).headD false && !(fl.drop (p + 1)).headD false
    | _, _ => false) &&
  (List.range p).all (fun k => (fl.drop k).headD false) &&
  (List.range ops.size).all fun k => decide (k ≤ p + 1) || dep ops ops.size k p

def tmpsOk (ops : Array Oper) : Bool :=
  (List.range ops.size).all fun j => opAt ops j fun o =>
    (o.after.toList.all fun e => !Region.binds .any e || decide (e.on < j)) &&
    (List.range ops.size).all fun i => opAt ops i fun p => match p.dst with
      | none => true
      | some t => i == j || (o.dst != some t && (!(o.looksAt ops).contains t || (decide (i < j) && dep ops 1 j i) || (decide (j < i) && dep ops 1 i j)))

def selOk (ops : Array Oper) : Bool := ops.toList.all fun o => match o.op with | .select .. => false | _ => true

def stat (C : Cfg) : Code → Bool
  | .region id ops true => tmpsOk ops && selOk ops && ((pinsOf C id true).all fun t => !decide (1000000 ≤ t) || pairOk C (flagsOf C id true) ops (t - 1000000)) && (List.range ops.size).all fun i => ((flagsOf C id true).drop i).headD false || ordOk (flagsOf C id true) (pinsOf C id true) ops i
  | .seq a b => stat C a && stat C b
  | .cond _ a b => stat C a && stat C b
  | .block _ b => stat C b
  | .loop b => stat C b
  | .scope b => stat C b
  | _ => true

inductive Ex where
  | normal | ret
  | exit (id : Nat)
  | goto (l : Nat)
  deriving DecidableEq

abbrev Out := Option (Ex × Env × Objs)

@[simp] def dropC (objs : Objs) (L : Nat) : CV → CV
  | .own id n => if id < L then .own id n else match toDV objs (.own id n) with | some x => .d x | none => .unk
  | .ptr id n off => if id < L then .ptr id n off else .unk
  | .vw id n lo hi k => if id < L then .vw id n lo hi k else match toDV objs (.vw id n lo hi k) with | some x => .d x | none => .unk
  | .clo f fs cs => if (fs ++ cs).all (fun p => decide (p.1 < L)) then .clo f fs cs else .unk
  | .mp id => if id < L then .mp id else .unk
  | c => c

@[simp] def dropV (objs : Objs) (L : Nat) : TV → TV
  | .v (.one c) => .v (.one (dropC objs L c))
  | .v (.agg cs) => .v (.agg (cs.map (dropC objs L)))
  | .tup vs => .tup (vs.map fun | .one c => .one (dropC objs L c) | .agg cs => .agg (cs.map (dropC objs L)))
  | .unk => .unk

@[simp] def dropO (objs : Objs) (L : Nat) : Ob → Ob
  | .box t cs => .box t (cs.map (dropC objs L))
  | .tab l => .tab (l.map fun p => (p.1, dropC objs L p.2))
  | o => o

@[simp] def maskE (vars : List Nat) (i : Nat) : Env → Env
  | [] => []
  | v :: vs => (if vars.contains i then v else .unk) :: maskE vars (i + 1) vs

@[simp] def varsAt (vars : List Nat) (L : Nat) : List Nat := vars.filterMap fun v => if v < 1000 then some v else if v / 1000 ≤ L then some (v % 1000) else none

@[simp] def settle (C : Cfg) (L : Nat) (env : Env) (objs : Objs) : Env × Objs :=
  ((maskE (varsAt C.vars L) 0 env).map (dropV objs L), (objs.take L).map (dropO objs L))

def loopIter (C : Cfg) (L : Nat) (run : Env → Objs → Out) : Nat → Env → Objs → Out
  | 0, _, _ => none
  | n + 1, env, objs =>
    match run (settle C L env objs).1 (settle C L env objs).2 with
    | some (.normal, env', objs') => loopIter C L run n env' objs'
    | r => r

def scopeIter (C : Cfg) (L : Nat) (run : Code → Env → Objs → Out) (body : Code) : Nat → Code → Env → Objs → Out
  | 0, _, _, _ => none
  | n + 1, cur, env, objs =>
    match run cur env objs with
    | some (.goto l, env', objs') => match findLabel body l with
      | some rest => scopeIter C L run body n rest (settle C L env' objs').1 (settle C L env' objs').2
      | none => some (.goto l, env', objs')
    | r => r

def evCode (C : Cfg) : Nat → Code → Env → Objs → Out
  | 0, _, _, _ => none
  | n + 1, c, env, objs =>
    match c with
    | .skip | .label _ => some (.normal, env, objs)
    | .region id ops draw => (evReg C id ops draw env objs).map fun r => (.normal, r.1, r.2)
    | .seq a b => match evCode C n a env objs with
      | some (.normal, env', objs') => evCode C n b env' objs'
      | r => r
    | .cond x a b => match rdB env x with
      | some true => evCode C n a env objs
      | some false => evCode C n b env objs
      | none => none
    | .block id b => match evCode C n b env objs with
      | some (.exit i, env', objs') => if i = id then some (.normal, env', objs') else some (.exit i, env', objs')
      | r => r
    | .loop b => loopIter C objs.length (evCode C n b) n env objs
    | .scope b => scopeIter C objs.length (evCode C n) b n b env objs
    | .exit id => some (.exit id, env, objs)
    | .goto l => some (.goto l, env, objs)
    | .ret => some (.ret, env, objs)
    | _ => none

@[simp] def resV (C : Cfg) (env : Env) (objs : Objs) : ResultVar → Option V1
  | .tmp t => match env[t]? with
    | some (.v x) => some x
    | _ => none
  | .cell a t => match env[a]?, C.ti t with
    | some (.v (.one p)), some ti => match loadC objs ti.size p with
      | some cs => match mk1 ti.agg cs with
        | some (.v x) => some x
        | _ => none
      | none => none
    | _, _ => none

@[simp] def resVs (C : Cfg) (env : Env) (objs : Objs) : List ResultVar → Option (List V1)
  | [] => some []
  | r :: rs => match resV C env objs r, resVs C env objs rs with
    | some v, some vs => some (v :: vs)
    | _, _ => none

@[simp] def resR (C : Cfg) (objs : Objs) (i : Nat) : V1 → Option RV
  | .one (.own id n) => match objs[id]? with
    | some (.arr e k xs) => if xs.length = n then some (if C.ores.contains i then .own e k xs else .one (.sl xs)) else none
    | some (.frz _ _ xs) => if xs.length = n ∧ !C.ores.contains i then some (.one (.sl xs)) else none
    | _ => none
  | .one c => (toDV objs c).map .one
  | .agg cs => (toDVs objs cs).map .agg

@[simp] def resRs (C : Cfg) (objs : Objs) : Nat → List V1 → Option (List RV)
  | _, [] => some []
  | i, v :: vs => match resR C objs i v, resRs C objs (i + 1) vs with
    | some r, some rs => some (r :: rs)
    | _, _ => none

@[simp] def argV : DA → TV
  | .one x => .v (.one (.d x))
  | .agg cs => .v (.agg (ddv cs))

@[simp] def env0 (args : List DA) (ntmps : Nat) : Env := args.map argV ++ List.replicate (ntmps - args.length) (.tup [])

@[simp] def ownIds : List V1 → List Nat
  | [] => []
  | v :: vs => (v1cells v).filterMap (fun | .own id _ => some id | .vw id _ _ _ _ => some id | _ => none) ++ ownIds vs

@[simp] def evRes (C : Cfg) (rs : List ResultVar) (env : Env) (objs : Objs) : Option (List RV) :=
  match resVs C env objs rs with
  | some vs => if C.ores = [] ∨ (ownIds vs).Nodup then resRs C objs 0 vs else none
  | none => none

def evFn (C : Cfg) (n : Nat) (fn : Func) (args : List DA) : Option (List RV) :=
  match fn.body with
  | some c => match evCode C n c (env0 args fn.ntmps) [] with
    | some (.normal, env, objs) | some (.ret, env, objs) => evRes C fn.results.toList env objs
    | _ => none
  | none => none

end Go.Vm

/- What the evaluator's values say of memory: the relations, and how they live on when memory grows. -/
set_option linter.unusedVariables false
namespace Go.Vm
open Go Go.RowKit

abbrev Fz := Nat → Nat → Option Value

inductive Den (Φ : Fz) : DV → Value → Prop where
  | sc (v : Value) (h : v.oneCell' = true) : Den Φ (.sc v) v
  | nil (a : Option Addr) (c : Nat) : Den Φ (.sl []) (.slice a 0 c)
  | sl (xs : List (List DV)) (k b o c : Nat) (vs : Nat → Nat → Value) (hne : xs ≠ []) (hk : ∀ x ∈ xs, x.length = k) (hk0 : 0 < k) (hc : xs.length ≤ c)
      (hcell : ∀ j i, j < xs.length → i < k → Φ b (o + (j * k + i)) = some (vs j i))
      (hden : ∀ j i x y, xs[j]? = some x → x[i]? = some y → Den Φ y (vs j i)) : Den Φ (.sl xs) (.slice (some ⟨b, o, none⟩) xs.length c)

def Le (Φ Φ' : Fz) : Prop := ∀ b o v, Φ b o = some v → Φ' b o = some v
theorem Le.refl (Φ : Fz) : Le Φ Φ := fun _ _ _ h => h
theorem Le.trans {Φ Φ' Φ'' : Fz} (h : Le Φ Φ') (h' : Le Φ' Φ'') : Le Φ Φ'' := fun b o v hv => h' b o v (h b o v hv)

theorem Den.mono {Φ Φ' : Fz} (hle : Le Φ Φ') {x : DV} {v : Value} (h : Den Φ x v) : Den Φ' x v := by
  induction h with
  | sc v h => exact .sc v h
  | nil a c => exact .nil a c
  | sl xs k b o c vs hne hk hk0 hc hcell hden ih => exact .sl xs k b o c vs hne hk hk0 hc (fun j i hj hi => hle _ _ _ (hcell j i hj hi)) ih

theorem Den.one {Φ : Fz} {x : DV} {v : Value} (h : Den Φ x v) : v.oneCell' = true := by
  cases h with
  | sc v h => exact h
  | nil a c => rfl
  | sl => rfl

def Sat (Φ : Fz) (w : World) : Prop := ∀ b o v, Φ b o = some v → w.cell? ⟨b, o, none⟩ = some v

theorem Sat.lt {Φ : Fz} {w : World} (h : Sat Φ w) {b o : Nat} {v : Value} (hv : Φ b o = some v) : b < w.heap.size := World.block_lt_of_cell? w _ (h b o v hv)
theorem Sat.below {Φ : Fz} {w w' : World} (h : Sat Φ w) (hb : Below w.heap.size w w') : Sat Φ w' := fun b o v hv =>
  (hb.cell (p := ⟨b, o, none⟩) (h.lt hv)).trans (h b o v hv)

def All2 {α β : Type} (R : α → β → Prop) (l : List α) (m : List β) : Prop := l.length = m.length ∧ ∀ (i : Nat) x y, l[i]? = some x → m[i]? = some y → R x y

section
variable {α β : Type} {R R' : α → β → Prop}
theorem All2.nil : All2 R [] [] := ⟨rfl, fun i x y h => by simp at h⟩
theorem All2.cons {x : α} {y : β} {l : List α} {m : List β} (h : R x y) (ht : All2 R l m) : All2 R (x :: l) (y :: m) := by
  refine ⟨by simp [ht.1], fun i a b ha hb => ?_⟩
  cases i with
  | zero => simp at ha hb; subst ha; subst hb; exact h
  | succ i => exact ht.2 i a b (by simpa using ha) (by simpa using hb)
theorem All2.head {x : α} {y : β} {l : List α} {m : List β} (h : All2 R (x :: l) (y :: m)) : R x y := h.2 0 x y rfl rfl
theorem All2.tail {x : α} {y : β} {l : List α} {m : List β} (h : All2 R (x :: l) (y :: m)) : All2 R l m :=
  ⟨by simpa using h.1, fun i a b ha hb => h.2 (i + 1) a b (by simpa using ha) (by simpa using hb)⟩
theorem All2.nil_left {m : List β} (h : All2 R [] m) : m = [] := List.eq_nil_of_length_eq_zero h.1.symm
theorem All2.cons_left {x : α} {l : List α} {m : List β} (h : All2 R (x :: l) m) : ∃ y m', m = y :: m' ∧ R x y ∧ All2 R l m' := by
  cases m with
  | nil => simpa using h.1
  | cons y m => exact ⟨y, m, rfl, h.head, h.tail⟩
theorem All2.imp {l : List α} {m : List β} (h : All2 R l m) (hi : ∀ x y, R x y → R' x y) : All2 R' l m := ⟨h.1, fun i x y hx hy => hi _ _ (h.2 i x y hx hy)⟩
theorem All2.append {l l' : List α} {m m' : List β} (h : All2 R l m) (h' : All2 R l' m') : All2 R (l ++ l') (m ++ m') := by
  refine ⟨by simp [h.1, h'.1], fun i x y hx hy => ?_⟩
  by_cases hi : i < l.length
  · rw [List.getElem?_append_left hi] at hx
    rw [List.getElem?_append_left (by rw [← h.1]; exact hi)] at hy
    exact h.2 i x y hx hy
  · rw [List.getElem?_append_right (by omega)] at hx
    rw [List.getElem?_append_right (by rw [← h.1]; omega), ← h.1] at hy
    exact h'.2 _ x y hx hy
theorem All2.drop {l : List α} {m : List β} (h : All2 R l m) (n : Nat) : All2 R (l.drop n) (m.drop n) :=
  ⟨by simp [h.1], fun i x y hx hy => h.2 (n + i) x y (by simpa using hx) (by simpa using hy)⟩
theorem All2.take {l : List α} {m : List β} (h : All2 R l m) (n : Nat) : All2 R (l.take n) (m.take n) := by
  refine ⟨by simp [h.1], fun i x y hx hy => ?_⟩
  rw [List.getElem?_take] at hx hy
  split at hx
  · rename_i hi; rw [if_pos hi] at hy; exact h.2 i x y hx hy
  · cases hx
theorem All2.get {l : List α} {m : List β} (h : All2 R l m) {i : Nat} {x : α} (hx : l[i]? = some x) : ∃ y, m[i]? = some y ∧ R x y := by
  have hl := (List.getElem?_eq_some_iff.1 hx).1
  have : i < m.length := by rw [← h.1]; exact hl
  exact ⟨m[i], List.getElem?_eq_getElem this, h.2 i x _ hx (List.getElem?_eq_getElem this)⟩
theorem All2.set {l : List α} {m : List β} (h : All2 R l m) (i : Nat) {x : α} {y : β} (hxy : R x y) : All2 R (l.set i x) (m.set i y) := by
  refine ⟨by simp [h.1], fun j a b ha hb => ?_⟩
  rw [List.getElem?_set] at ha hb
  by_cases hij : i = j
  · subst hij
    by_cases hl : i < l.length
    · simp [hl] at ha; simp [← h.1, hl] at hb; subst ha; subst hb; exact hxy
    · simp [hl] at ha
  · simp [hij] at ha hb; exact h.2 j a b ha hb
theorem All2.map_left {γ : Type} {f : γ → α} {l : List γ} {m : List β} (h : All2 (fun x y => R (f x) y) l m) : All2 R (l.map f) m := by
  refine ⟨by simp [h.1], fun i x y hx hy => ?_⟩
  rw [List.getElem?_map] at hx
  cases hl : l[i]? with
  | none => rw [hl] at hx; cases hx
  | some z => rw [hl] at hx; simp at hx; subst hx; exact h.2 i z y hl hy
theorem All2.of_map_left {γ : Type} {f : γ → α} {l : List γ} {m : List β} (h : All2 R (l.map f) m) : All2 (fun x y => R (f x) y) l m :=
  ⟨by simpa using h.1, fun i x y hx hy => h.2 i (f x) y (by simp [hx]) hy⟩
theorem All2.replicate {n : Nat} {x : α} {y : β} (h : R x y) : All2 R (List.replicate n x) (List.replicate n y) := by
  refine ⟨by simp, fun i a b ha hb => ?_⟩
  rw [List.getElem?_replicate] at ha hb
  split at ha
  · rename_i hi; rw [if_pos hi] at hb; injection ha with ha; injection hb with hb; subst ha; subst hb; exact h
  · cases ha
end

abbrev Th := Nat → Value

def len1 : Ob → Option Nat
  | .nil => none
  | .box _ _ => some 0
  | .arr _ _ xs => some xs.length
  | .frz _ _ xs => some xs.length
  | .tab _ => some 0

def Lr (objs : Objs) (id : Nat) : Option (Option Nat) := (objs[id]?).map len1

def pblk : Value → Option Nat
  | .pointer (some a) => some a.block
  | .slice (some a) _ _ => some a.block
  | .map (some b) => some b
  | _ => none

def Ref (objs : Objs) (id n : Nat) (p : Prop) : Prop := ∃ s, Lr objs id = some s ∧ ∀ m, s = some m → n ≤ m ∧ (n = m → p)

def PtR (θ : Th) (objs : Objs) (p : Nat × Nat) (v : Value) : Prop := ∃ b, v = .pointer (some ⟨b, p.2, none⟩) ∧ Ref objs p.1 0 (pblk (θ p.1) = some b)

def CR (Φ : Fz) (θ : Th) (objs : Objs) : CV → Value → Prop
  | .d x, v => Den Φ x v
  | .own id n, v => (∃ ad c, v = .slice ad n c ∧ (0 < n → ∃ b, ad = some ⟨b, 0, none⟩) ∧ n ≤ c) ∧ Ref objs id n (v = θ id)
  | .ptr id n off, v => ∃ b, v = .pointer (some ⟨b, off, none⟩) ∧ Ref objs id n (pblk (θ id) = some b)
  | .fp cs, v => ∃ b o, v = .pointer (some ⟨b, o, none⟩) ∧ ∀ i x, cs[i]? = some x → ∃ u, Φ b (o + i) = some u ∧ Den Φ x u
  | .unk, v => v.oneCell' = true
  | .nil, v => v = .slice none 0 0
  | .unkB, v => ∃ b, v = .bool b
  | .vw id n lo hi k, v => lo ≤ hi ∧ hi ≤ n ∧ (∃ ad c, v = .slice ad (hi - lo) c ∧ hi - lo ≤ c ∧ (lo = 0 → Ref objs id n (θ id = .slice ad n c)) ∧ (lo < hi → ∃ b, ad = some ⟨b, lo * k, none⟩ ∧ Ref objs id n (∃ c0, θ id = .slice (some ⟨b, 0, none⟩) n c0)))
  | .mp id, v => ∃ b, v = .map (some b) ∧ Ref objs id 0 (pblk (θ id) = some b)
  | .clo f fs cs, v => ∃ a b : List Value, v = .func (.func f) a.toArray b.toArray ∧ All2 (PtR θ objs) fs a ∧ All2 (PtR θ objs) cs b

def V1R (Φ : Fz) (θ : Th) (objs : Objs) : V1 → Value → Prop
  | .one c, v => CR Φ θ objs c v
  | .agg cs, v => ∃ vs : List Value, v = .agg vs.toArray ∧ All2 (CR Φ θ objs) cs vs

def TVR (Φ : Fz) (θ : Th) (objs : Objs) : TV → Value → Prop
  | .v x, v => V1R Φ θ objs x v
  | .tup xs, v => ∃ vs : List Value, v = .tuple vs.toArray ∧ All2 (V1R Φ θ objs) xs vs
  | .unk, _ => True

def ObR (Φ : Fz) (θ : Th) (objs : Objs) (base : Nat) (w : World) (id : Nat) : Ob → Prop
  | .nil => True
  | .box t cs => ∃ b cells, θ id = .pointer (some ⟨b, 0, none⟩) ∧ base ≤ b ∧ w.heap[b]? = some (.cells cells t (0, 0)) ∧ All2 (CR Φ θ objs) cs cells.toList ∧ (∀ o, Φ b o = none)
  | .arr e k xs => ∃ vs : List Value, w.ownsRow base e k (θ id) xs.length vs ∧ All2 (Den Φ) xs.flatten vs ∧ (∀ x ∈ xs, x.length = k) ∧ 0 < k ∧ (∀ b, pblk (θ id) = some b → ∀ o, Φ b o = none)
  | .tab l => ∃ b es clock, θ id = .map (some b) ∧ base ≤ b ∧ w.heap[b]? = some (.map es clock) ∧ All2 (fun p e => e.key = .int .i64 p.1 ∧ CR Φ θ objs p.2 e.val) l es.toList ∧ (∀ o, Φ b o = none)
  | .frz e k xs => Den Φ (.sl xs) (θ id) ∧ (∀ x ∈ xs, x.length = k) ∧ 0 < k ∧ ∀ b o n c, θ id = .slice (some ⟨b, o, none⟩) n c → o = 0

def mblk (θ : Th) (objs : Objs) (id : Nat) : Option Nat :=
  match objs[id]? with
  | some (.box _ _) => pblk (θ id)
  | some (.arr _ _ _) => pblk (θ id)
  | some (.tab _) => pblk (θ id)
  | _ => none

structure StR (Φ : Fz) (θ : Th) (base : Nat) (w : World) (env : Env) (objs : Objs) (tmps : Array Value) : Prop where
  sat : Sat Φ w
  env : All2 (TVR Φ θ objs) env tmps.toList
  ob : ∀ id ob, objs[id]? = some ob → ObR Φ θ objs base w id ob
  apart : ∀ i j b, mblk θ objs i = some b → mblk θ objs j = some b → i = j
  base : base ≤ w.heap.size

def Go2 (θ θ' : Th) (objs objs' : Objs) : Prop :=
  ∀ id s, Lr objs id = some s → ∃ s', Lr objs' id = some s' ∧ ∀ m', s' = some m' → ∃ m, s = some m ∧ m ≤ m' ∧ (m = m' → θ' id = θ id)

theorem Go2.refl (θ : Th) (objs : Objs) : Go2 θ θ objs objs := fun id s h => ⟨s, h, fun m' hm => ⟨m', hm, Nat.le_refl _, fun _ => rfl⟩⟩

theorem Go2.trans {θ θ' θ'' : Th} {o o' o'' : Objs} (h : Go2 θ θ' o o') (h' : Go2 θ' θ'' o' o'') : Go2 θ θ'' o o'' := by
  intro id s hs
  obtain ⟨s', hs', h1⟩ := h id s hs
  obtain ⟨s'', hs'', h2⟩ := h' id s' hs'
  refine ⟨s'', hs'', fun m'' hm'' => ?_⟩
  obtain ⟨m', hm', hle, he⟩ := h2 m'' hm''
  obtain ⟨m, hm, hle2, he2⟩ := h1 m' hm'
  exact ⟨m, hm, by omega, fun e => (he (by omega)).trans (he2 (by omega))⟩

theorem Ref.go {θ θ' : Th} {objs objs' : Objs} {id n : Nat} {p p' : Prop} (h : Ref objs id n p) (hg : Go2 θ θ' objs objs') (hp : θ' id = θ id → p → p') : Ref objs' id n p' := by
  obtain ⟨s, hs, hr⟩ := h
  obtain ⟨s', hs', h1⟩ := hg id s hs
  refine ⟨s', hs', fun m' hm' => ?_⟩
  obtain ⟨m, hm, hle, he⟩ := h1 m' hm'
  obtain ⟨hn, hq⟩ := hr m hm
  exact ⟨by omega, fun e => hp (he (by omega)) (hq (by omega))⟩

theorem PtR.go {θ θ' : Th} {objs objs' : Objs} (hg : Go2 θ θ' objs objs') {p : Nat × Nat} {v : Value} (h : PtR θ objs p v) : PtR θ' objs' p v := by
  obtain ⟨b, hb, hr⟩ := h
  exact ⟨b, hb, hr.go hg (fun e hv => by rw [e]; exact hv)⟩

theorem CR.go {Φ Φ' : Fz} {θ θ' : Th} {objs objs' : Objs} (hle : Le Φ Φ') (hg : Go2 θ θ' objs objs') {c : CV} {v : Value} (h : CR Φ θ objs c v) : CR Φ' θ' objs' c v := by
  cases c with
  | d x => exact Den.mono hle h
  | own id n => exact ⟨h.1, h.2.go hg (fun e hv => by rw [e]; exact hv)⟩
  | ptr id n off => obtain ⟨b, hb, hr⟩ := h; exact ⟨b, hb, hr.go hg (fun e hv => by rw [e]; exact hv)⟩
  | fp cs =>
    obtain ⟨b, o, hv, hc⟩ := h
    exact ⟨b, o, hv, fun i x hx => let ⟨u, hu, hd⟩ := hc i x hx; ⟨u, hle _ _ _ hu, hd.mono hle⟩⟩
  | unk => exact h
  | nil => exact h
  | unkB => exact h
  | vw id n lo hi k =>
    obtain ⟨h1, h2, ad, c, hv, hc, hz, hr⟩ := h
    exact ⟨h1, h2, ad, c, hv, hc, fun h0 => (hz h0).go hg (fun e hp => by rw [e]; exact hp), fun hlt => by obtain ⟨b, hb, hr⟩ := hr hlt; exact ⟨b, hb, hr.go hg (fun e hp => by rw [e]; exact hp)⟩⟩
  | mp id => obtain ⟨b, hb, hr⟩ := h; exact ⟨b, hb, hr.go hg (fun e hv => by rw [e]; exact hv)⟩
  | clo f fs cs => obtain ⟨x, y, hv, h1, h2⟩ := h; exact ⟨x, y, hv, h1.imp fun _ _ => PtR.go hg, h2.imp fun _ _ => PtR.go hg⟩

theorem V1R.go {Φ Φ' : Fz} {θ θ' : Th} {objs objs' : Objs} (hle : Le Φ Φ') (hg : Go2 θ θ' objs objs') {x : V1} {v : Value} (h : V1R Φ θ objs x v) : V1R Φ' θ' objs' x v := by
  cases x with
  | one c => exact CR.go hle hg h
  | agg cs => obtain ⟨vs, hv, hc⟩ := h; exact ⟨vs, hv, hc.imp fun _ _ => CR.go hle hg⟩

theorem TVR.go {Φ Φ' : Fz} {θ θ' : Th} {objs objs' : Objs} (hle : Le Φ Φ') (hg : Go2 θ θ' objs objs') {x : TV} {v : Value} (h : TVR Φ θ objs x v) : TVR Φ' θ' objs' x v := by
  cases x with
  | v x => exact V1R.go hle hg h
  | tup xs => obtain ⟨vs, hv, hc⟩ := h; exact ⟨vs, hv, hc.imp fun _ _ => V1R.go hle hg⟩
  | unk => trivial

theorem CR.one {Φ : Fz} {θ : Th} {objs : Objs} {c : CV} {v : Value} (h : CR Φ θ objs c v) : v.oneCell' = true := by
  cases c with
  | d x => exact Den.one h
  | own id n => obtain ⟨⟨ad, c, rfl, _⟩, _⟩ := h; rfl
  | ptr id n off => obtain ⟨b, rfl, _⟩ := h; rfl
  | fp cs => obtain ⟨b, o, rfl, _⟩ := h; rfl
  | unk => exact h
  | nil => rw [show v = .slice none 0 0 from h]; rfl
  | unkB => obtain ⟨b, rfl⟩ := h; rfl
  | vw id n lo hi k => obtain ⟨_, _, ad, c, rfl, _⟩ := h; rfl
  | clo f fs cs => obtain ⟨x, y, rfl, _⟩ := h; rfl
  | mp id => obtain ⟨b, rfl, _⟩ := h; rfl

end Go.Vm

/- The state of a running function: how it goes on when memory grows, a new object is made, an object changes, a slice of its own is kept by others. -/
set_option linter.unusedVariables false
set_option linter.unusedSimpArgs false
namespace Go.Vm
open Go Go.RowKit

def New (Φ Φ' : Fz) (B : Nat) : Prop := ∀ b o, b < B → Φ' b o = Φ b o
theorem New.refl (Φ : Fz) (B : Nat) : New Φ Φ B := fun _ _ _ => rfl

theorem len1_box {ob : Ob} {t : Nat} {cs : List CV} : len1 (.box t cs) = some 0 := rfl

theorem Lr_some {objs : Objs} {id : Nat} {s : Option Nat} (h : Lr objs id = some s) : ∃ ob, objs[id]? = some ob ∧ len1 ob = s := by
  unfold Lr at h
  cases ho : objs[id]? with
  | none => rw [ho] at h; cases h
  | some ob => rw [ho] at h; simp at h; exact ⟨ob, rfl, h⟩

theorem Lr_of {objs : Objs} {id : Nat} {ob : Ob} (h : objs[id]? = some ob) : Lr objs id = some (len1 ob) := by simp [Lr, h]

theorem mblk_some {θ : Th} {objs : Objs} {i b : Nat} (h : mblk θ objs i = some b) : ∃ ob, objs[i]? = some ob ∧ pblk (θ i) = some b ∧ ((∃ t cs, ob = .box t cs) ∨ (∃ e k xs, ob = .arr e k xs) ∨ ∃ l, ob = .tab l) := by
  unfold mblk at h
  cases ho : objs[i]? with
  | none => rw [ho] at h; cases h
  | some ob =>
    rw [ho] at h
    cases ob with
    | nil => cases h
    | box t cs => exact ⟨_, rfl, h, .inl ⟨t, cs, rfl⟩⟩
    | arr e k xs => exact ⟨_, rfl, h, .inr (.inl ⟨e, k, xs, rfl⟩)⟩
    | tab l => exact ⟨_, rfl, h, .inr (.inr ⟨l, rfl⟩)⟩
    | frz e k xs => cases h

theorem own_pblk {w : World} {base e k n : Nat} {v : Value} {vs : List Value} (h : w.ownsRow base e k v n vs) : pblk v = v.ownBlock := by
  rcases h.2 with ⟨rfl, _⟩ | ⟨g, cap, cur, rfl, _⟩ <;> rfl

theorem own_ge {w : World} {base e k n b : Nat} {v : Value} {vs : List Value} (h : w.ownsRow base e k v n vs) (hb : pblk v = some b) : base ≤ b ∧ b < w.heap.size :=
  h.lt b (by rw [← own_pblk h]; exact hb)

theorem StR.mblk_ge {Φ : Fz} {θ : Th} {base : Nat} {w : World} {env : Env} {objs : Objs} {tmps : Array Value} (h : StR Φ θ base w env objs tmps) {i b : Nat}
    (hb : mblk θ objs i = some b) : base ≤ b ∧ b < w.heap.size := by
  obtain ⟨ob, ho, hp, hk⟩ := mblk_some hb
  have hr := h.ob i ob ho
  rcases hk with ⟨t, cs, rfl⟩ | ⟨e, k, xs, rfl⟩ | ⟨l, rfl⟩
  · obtain ⟨b', cells, ht, hge, hh, _⟩ := hr
    rw [ht] at hp
    have : b' = b := by simpa [pblk] using hp
    subst this
    exact ⟨hge, (Array.getElem?_eq_some_iff.1 hh).1⟩
  · obtain ⟨vs, hown, _⟩ := hr
    exact own_ge hown hp
  · obtain ⟨b', es, ck, ht, hge, hh, _⟩ := hr
    rw [ht] at hp
    have : b' = b := by simpa [pblk] using hp
    subst this
    exact ⟨hge, (Array.getElem?_eq_some_iff.1 hh).1⟩

theorem own_keep {w w' : World} {base e k n : Nat} {v : Value} {vs : List Value} (h : w.ownsRow base e k v n vs) (hb : ∀ b, pblk v = some b → w'.heap[b]? = w.heap[b]?) : w'.ownsRow base e k v n vs := by
  refine ⟨h.1, ?_⟩
  rcases h.2 with ⟨rfl, h0⟩ | ⟨g, cap, cur, rfl, hb0, hg, rest⟩
  · exact .inl ⟨rfl, h0⟩
  · exact .inr ⟨g, cap, cur, rfl, hb0, (hb g rfl).trans hg, rest⟩

theorem ObR.keep {Φ Φ' : Fz} {θ θ' : Th} {objs objs' : Objs} {base : Nat} {w w' : World} {id : Nat} {ob : Ob} (h : ObR Φ θ objs base w id ob) (hle : Le Φ Φ') (hg : Go2 θ θ' objs objs')
    (hθ : θ' id = θ id) (hh : ∀ b, pblk (θ id) = some b → ((∃ t cs, ob = .box t cs) ∨ (∃ e k xs, ob = .arr e k xs) ∨ ∃ l, ob = .tab l) → w'.heap[b]? = w.heap[b]? ∧ ∀ o, Φ' b o = Φ b o) : ObR Φ' θ' objs' base w' id ob := by
  cases ob with
  | nil => trivial
  | box t cs =>
    obtain ⟨b, cells, ht, hge, hb, hc, hn⟩ := h
    obtain ⟨h1, h2⟩ := hh b (by rw [ht]; rfl) (.inl ⟨t, cs, rfl⟩)
    exact ⟨b, cells, hθ.trans ht, hge, h1.trans hb, hc.imp fun _ _ => CR.go hle hg, fun o => (h2 o).trans (hn o)⟩
  | arr e k xs =>
    obtain ⟨vs, hown, hc, hk, hk0, hn⟩ := h
    refine ⟨vs, by rw [hθ]; exact own_keep hown (fun b hb => (hh b hb (.inr (.inl ⟨e, k, xs, rfl⟩))).1), hc.imp fun _ _ => Den.mono hle, hk, hk0, fun b hb o => ?_⟩
    rw [hθ] at hb
    exact ((hh b hb (.inr (.inl ⟨e, k, xs, rfl⟩))).2 o).trans (hn b hb o)
  | tab l =>
    obtain ⟨b, es, ck, ht, hge, hb, hc, hn⟩ := h
    obtain ⟨h1, h2⟩ := hh b (by rw [ht]; rfl) (.inr (.inr ⟨l, rfl⟩))
    exact ⟨b, es, ck, hθ.trans ht, hge, h1.trans hb, hc.imp fun _ _ h => ⟨h.1, CR.go hle hg h.2⟩, fun o => (h2 o).trans (hn o)⟩
  | frz e k xs => exact ⟨by rw [hθ]; exact h.1.mono hle, h.2.1, h.2.2.1, by rw [hθ]; exact h.2.2.2⟩

theorem StR.below {Φ Φ' : Fz} {θ : Th} {base : Nat} {w w' : World} {env : Env} {objs : Objs} {tmps : Array Value} (h : StR Φ θ base w env objs tmps)
    (hb : Below w.heap.size w w') (hle : Le Φ Φ') (hn : New Φ Φ' w.heap.size) (hs : Sat Φ' w') : StR Φ' θ base w' env objs tmps where
  sat := hs
  env := h.env.imp fun _ _ => TVR.go hle (Go2.refl _ _)
  ob := fun id ob ho => by
    refine (h.ob id ob ho).keep hle (Go2.refl _ _) rfl (fun b hp hk => ?_)
    have hm : mblk θ objs id = some b := by
      unfold mblk; rw [ho]
      rcases hk with ⟨t, cs, rfl⟩ | ⟨e, k, xs, rfl⟩ | ⟨l, rfl⟩ <;> exact hp
    have hlt := (h.mblk_ge hm).2
    exact ⟨hb.block b hlt, fun o => hn b o hlt⟩
  apart := h.apart
  base := Nat.le_trans h.base hb.size

def thAt (θ : Th) (n : Nat) (v : Value) : Th := fun i => if i = n then v else θ i
theorem thAt_same (θ : Th) (n : Nat) (v : Value) : thAt θ n v n = v := by simp [thAt]
theorem thAt_other {θ : Th} {n i : Nat} {v : Value} (h : i ≠ n) : thAt θ n v i = θ i := by simp [thAt, h]

theorem go_push (θ : Th) (objs : Objs) (ob : Ob) (v : Value) : Go2 θ (thAt θ objs.length v) objs (objs ++ [ob]) := by
  intro id s hs
  obtain ⟨o, ho, hl⟩ := Lr_some hs
  have hlt := (List.getElem?_eq_some_iff.1 ho).1
  refine ⟨s, ?_, fun m' hm => ⟨m', hm, Nat.le_refl _, fun _ => thAt_other (by omega)⟩⟩
  rw [← hl]
  exact Lr_of (by rw [List.getElem?_append_left hlt]; exact ho)

theorem mblk_push_old {θ : Th} {objs : Objs} {ob : Ob} {v : Value} {i : Nat} (hi : i < objs.length) : mblk (thAt θ objs.length v) (objs ++ [ob]) i = mblk θ objs i := by
  unfold mblk
  rw [List.getElem?_append_left hi, thAt_other (by omega)]

theorem StR.push {Φ : Fz} {θ : Th} {base : Nat} {w : World} {env : Env} {objs : Objs} {tmps : Array Value} (h : StR Φ θ base w env objs tmps) (ob : Ob) (v : Value)
    (hob : ObR Φ (thAt θ objs.length v) (objs ++ [ob]) base w objs.length ob) (hfresh : ∀ i b, mblk θ objs i = some b → pblk v ≠ some b) :
    StR Φ (thAt θ objs.length v) base w env (objs ++ [ob]) tmps where
  sat := h.sat
  env := h.env.imp fun _ _ => TVR.go (Le.refl _) (go_push _ _ _ _)
  ob := fun id o ho => by
    by_cases hid : id < objs.length
    · rw [List.getElem?_append_left hid] at ho
      exact (h.ob id o ho).keep (Le.refl _) (go_push _ _ _ _) (thAt_other (by omega)) (fun b _ _ => ⟨rfl, fun _ => rfl⟩)
    · rw [List.getElem?_append_right (by omega)] at ho
      have : id = objs.length := by
        have := (List.getElem?_eq_some_iff.1 ho).1
        simp at this; omega
      subst this
      simp at ho; subst ho
      exact hob
  apart := fun i j b hi hj => by
    have key : ∀ i b, mblk (thAt θ objs.length v) (objs ++ [ob]) i = some b → i < objs.length ∧ mblk θ objs i = some b ∨ i = objs.length ∧ pblk v = some b := by
      intro i b hi
      by_cases hid : i < objs.length
      · rw [mblk_push_old hid] at hi; exact .inl ⟨hid, hi⟩
      · obtain ⟨o, ho, hp, _⟩ := mblk_some hi
        have := (List.getElem?_eq_some_iff.1 ho).1
        simp at this
        have : i = objs.length := by omega
        subst this
        rw [thAt_same] at hp
        exact .inr ⟨rfl, hp⟩
    rcases key i b hi with ⟨h1, h2⟩ | ⟨h1, h2⟩ <;> rcases key j b hj with ⟨h3, h4⟩ | ⟨h3, h4⟩
    · exact h.apart i j b h2 h4
    · exact absurd h4 (hfresh i b h2)
    · exact absurd h2 (hfresh j b h4)
    · omega
  base := h.base

theorem StR.change {Φ : Fz} {θ : Th} {base : Nat} {w w' : World} {env : Env} {objs : Objs} {tmps : Array Value} (h : StR Φ θ base w env objs tmps) {id : Nat} {old ob : Ob} (v : Value)
    (ho : objs[id]? = some old) (hg : Go2 θ (thAt θ id v) objs (objs.set id ob))
    (hob : ObR Φ (thAt θ id v) (objs.set id ob) base w' id ob) (hs : Sat Φ w')
    (hkeep : ∀ i b, i ≠ id → mblk θ objs i = some b → w'.heap[b]? = w.heap[b]? ∧ pblk v ≠ some b) (hsz : base ≤ w'.heap.size) :
    StR Φ (thAt θ id v) base w' env (objs.set id ob) tmps where
  sat := hs
  env := h.env.imp fun _ _ => TVR.go (Le.refl _) hg
  ob := fun i o hi => by
    by_cases hid : i = id
    · subst hid
      have hlt := (List.getElem?_eq_some_iff.1 ho).1
      rw [List.getElem?_set_self hlt] at hi
      injection hi with hi; subst hi
      exact hob
    · rw [List.getElem?_set_ne (Ne.symm hid)] at hi
      refine (h.ob i o hi).keep (Le.refl _) hg (thAt_other hid) (fun b hp hk => ?_)
      have hm : mblk θ objs i = some b := by
        unfold mblk; rw [hi]
        rcases hk with ⟨t, cs, rfl⟩ | ⟨e, k, xs, rfl⟩ | ⟨l, rfl⟩ <;> exact hp
      exact ⟨(hkeep i b hid hm).1, fun _ => rfl⟩
  apart := fun i j b hi hj => by
    have key : ∀ i b, mblk (thAt θ id v) (objs.set id ob) i = some b → i ≠ id ∧ mblk θ objs i = some b ∨ i = id ∧ pblk v = some b := by
      intro i b hi
      by_cases hid : i = id
      · subst hid
        obtain ⟨o, _, hp, _⟩ := mblk_some hi
        rw [thAt_same] at hp
        exact .inr ⟨rfl, hp⟩
      · refine .inl ⟨hid, ?_⟩
        unfold mblk at hi ⊢
        rw [List.getElem?_set_ne (Ne.symm hid), thAt_other hid] at hi
        exact hi
    rcases key i b hi with ⟨h1, h2⟩ | ⟨h1, h2⟩ <;> rcases key j b hj with ⟨h3, h4⟩ | ⟨h3, h4⟩
    · exact h.apart i j b h2 h4
    · exact absurd h4 (hkeep i b h1 h2).2
    · exact absurd h2 (hkeep j b h3 h4).2
    · omega
  base := hsz

def addRow (Φ : Fz) (b : Nat) (vs : List Value) : Fz := fun b' o => if b' = b then vs[o]? else Φ b' o

theorem addRow_le {Φ : Fz} {b : Nat} {vs : List Value} (hn : ∀ o, Φ b o = none) : Le Φ (addRow Φ b vs) := by
  intro b' o v hv
  unfold addRow
  split
  · rename_i e; subst e; rw [hn] at hv; cases hv
  · exact hv

theorem flat_get {α : Type} {k : Nat} : ∀ {xs : List (List α)}, (∀ x ∈ xs, x.length = k) → ∀ {j i : Nat} {x : List α} {y : α}, xs[j]? = some x → x[i]? = some y → xs.flatten[j * k + i]? = some y
  | [], _, j, i, x, y, hx, _ => by simp at hx
  | z :: xs, hk, j, i, x, y, hx, hy => by
    have hz : z.length = k := hk z (by simp)
    cases j with
    | zero =>
      simp at hx; subst hx
      have hlt := (List.getElem?_eq_some_iff.1 hy).1
      simp only [List.flatten_cons, Nat.zero_mul, Nat.zero_add]
      rw [List.getElem?_append_left hlt]; exact hy
    | succ j =>
      have ih := flat_get (xs := xs) (fun x hx => hk x (by simp [hx])) (j := j) (i := i) (by simpa using hx) hy
      simp only [List.flatten_cons]
      rw [List.getElem?_append_right (by rw [hz, Nat.succ_mul]; omega)]
      have e : (j + 1) * k + i - z.length = j * k + i := by rw [hz, Nat.succ_mul]; omega
      rw [e]; exact ih

theorem flat_len {α : Type} {k : Nat} : ∀ {xs : List (List α)}, (∀ x ∈ xs, x.length = k) → xs.flatten.length = xs.length * k
  | [], _ => by simp
  | z :: xs, hk => by
    have := flat_len (xs := xs) (fun x hx => hk x (by simp [hx]))
    simp only [List.flatten_cons, List.length_append, List.length_cons, this, hk z (by simp), Nat.succ_mul]
    omega

theorem den_of_row {Φ : Fz} {w : World} {base e k : Nat} {v : Value} {vs : List Value} {xs : List (List DV)} (hown : w.ownsRow base e k v xs.length vs) (hd : All2 (Den Φ) xs.flatten vs)
    (hk : ∀ x ∈ xs, x.length = k) (hk0 : 0 < k) {b : Nat} (hb : pblk v = some b) (hn : ∀ o, Φ b o = none) : Den (addRow Φ b vs) (.sl xs) v ∧ Sat (addRow Φ b vs) w ∨ ¬ Sat Φ w := by
  by_cases hs : Sat Φ w
  · refine .inl ⟨?_, ?_⟩
    · rcases hown.2 with ⟨rfl, _⟩ | ⟨g, cap, cur, rfl, hb0, hg, hnc, hcm, hcs, htake⟩
      · cases hb
      · have hgb : g = b := by simpa [pblk] using hb
        subst hgb
        by_cases hne : xs = []
        · subst hne; exact .nil _ _
        · have hlen := flat_len hk
          refine .sl xs k g 0 cap (fun j i => vs.getD (j * k + i) default) hne hk hk0 hnc (fun j i hj hi => ?_) (fun j i x y hx hy => ?_)
          · have hlt : j * k + i < vs.length := by
              rw [← hd.1, hlen]
              calc j * k + i < j * k + k := by omega
                _ = (j + 1) * k := by rw [Nat.succ_mul]
                _ ≤ xs.length * k := Nat.mul_le_mul_right _ hj
            simp [addRow, List.getElem?_eq_getElem hlt, List.getD_eq_getElem?_getD]
          · have hf := flat_get hk hx hy
            obtain ⟨u, hu, hden⟩ := hd.get hf
            have : vs.getD (j * k + i) default = u := by simp [List.getD_eq_getElem?_getD, hu]
            rw [this]
            exact hden.mono (addRow_le hn)
    · intro b' o u hu
      unfold addRow at hu
      split at hu
      · rename_i e; subst e
        have := hown.cells (g := b') (by rw [← own_pblk hown]; exact hb) o u hu
        rwa [add_plain'] at this
      · exact hs b' o u hu
  · exact .inr hs
  where
  add_plain' {b' o : Nat} : (⟨b', 0, none⟩ : Addr).add o = ⟨b', o, none⟩ := by unfold Addr.add; split <;> simp_all

end Go.Vm

/- Operations that see their operands alone: what the evaluator says of them is what the machine does. -/
set_option linter.unusedVariables false
set_option linter.unusedSimpArgs false
namespace Go.Vm
open Go Go.RowKit

def isAggD : TypeDesc → Bool
  | .struct _ | .array _ _ => true
  | _ => false

def KOk (P : Program) : TK → TypeDesc → Prop
  | .plain, _ => True
  | .int k, d => d = .int k
  | .bool, d => d = .bool
  | .str, d => d = .string
  | .struct fs, d => ∃ fields : Array Field, d = .struct fields ∧ fs.length = fields.size ∧
      ∀ (f o sz : Nat) (ag : Bool), fs[f]? = some (o, sz, ag) → ∃ fld : Field, fields[f]? = some fld ∧ fld.offset = o ∧ (∃ i, P.info? fld.type = some i ∧ i.size = sz) ∧ (∃ d', P.underlying fld.type = some d' ∧ isAggD d' = ag)
  | .array n e, d => d = .array n e
  | .slice e, d => d = .slice e
  | .ptr e, d => d = .pointer e
  | .map k e, d => d = .map k e ∧ ∃ i, P.info? e = some i ∧ i.zero = some .nilFunc

structure TyOk (P : Program) (t : Nat) (ti : TI) : Prop where
  info : ∃ i z, P.info? t = some i ∧ i.size = ti.size ∧ i.bytes = ti.bytes ∧ i.zero = some z ∧ (∀ Φ, All2 (Den Φ) ti.zero z.cells.toList) ∧ z.cells.size = ti.size ∧ (∀ Φ θ objs, All2 (CR Φ θ objs) (zcs ti.zero) z.cells.toList)
  desc : ∃ d, P.underlying t = some d ∧ isAggD d = ti.agg ∧ KOk P ti.kind d

theorem TyOk.size {P : Program} {t : Nat} {ti : TI} (h : TyOk P t ti) (w : World) : (sizeOf t).run P w = .ok ti.size w := by
  obtain ⟨i, z, hi, hs, _⟩ := h.info
  simp [sizeOf, typeInfo, hi, hs]

theorem TyOk.und {P : Program} {t : Nat} {ti : TI} (h : TyOk P t ti) : ∃ d, P.underlying t = some d ∧ isAggD d = ti.agg ∧ KOk P ti.kind d := h.desc

theorem run_isAgg {P : Program} {t : Nat} {d : TypeDesc} (h : P.underlying t = some d) (w : World) : (isAgg t).run P w = .ok (isAggD d) w := by
  unfold isAgg
  simp only [Sem.run_bind, run_underlying h, Result.andThen_ok]
  cases d <;> rfl

structure CfgOk (P : Program) (C : Cfg) : Prop where
  ty : ∀ t ti, C.ti t = some ti → TyOk P t ti
  eq : ∀ t ks, C.eqs.lookup t = some ks → P.eqGuardType P.depth t = false ∧ ∀ (Φ : Fz) (θ : Th) (objs : Objs) xs ys (us vs : List Value) b w, eqCells ks xs ys = some b →
    All2 (CR Φ θ objs) xs us → All2 (CR Φ θ objs) ys vs → (Op.equal t (.agg us.toArray) (.agg vs.toArray)).run P w = .ok b w

section
variable {P : Program} {Φ : Fz} {θ : Th} {objs : Objs} {env : Env} {a : Act} {w : World} {C : Cfg}

theorem den_sc {Φ : Fz} {u v : Value} (h : Den Φ (.sc u) v) : v = u ∧ u.oneCell' = true := by cases h with | sc _ h => exact ⟨rfl, h⟩

theorem plainV_one {v : Value} (h : plainV v = true) : v.oneCell' = true := by
  cases v <;> simp_all [plainV, Value.oneCell']

theorem cst_ok {v : Value} {x : TV} (h : cst v = some x) : TVR Φ θ objs x v := by
  unfold cst at h
  split at h
  · rename_i cs
    split at h
    · rename_i hp
      injection h with h; subst h
      refine ⟨cs.toList, by simp, ?_⟩
      refine All2.map_left ⟨rfl, fun i u y hu hy => ?_⟩
      have : u = y := by rw [hu] at hy; injection hy
      subst this
      exact .sc _ (plainV_one (List.all_eq_true.1 hp u (List.mem_of_getElem? hu)))
    · cases h
  · injection h with h; subst h; exact rfl
  · rename_i f fs cs
    split at h
    · rename_i h1 h2
      injection h with h; subst h
      exact ⟨[], [], by rw [show fs = #[] from Array.toList_eq_nil_iff.1 h1, show cs = #[] from Array.toList_eq_nil_iff.1 h2], All2.nil, All2.nil⟩
    · cases h
  · split at h
    · rename_i hp; injection h with h; subst h; exact .sc _ (plainV_one hp)
    · cases h

theorem rd_ok (he : All2 (TVR Φ θ objs) env a.tmps.toList) {x : Operand} {v : TV} (h : rd env x = some v) : TVR Φ θ objs v (a.eval x) := by
  cases x with
  | tmp t =>
    obtain ⟨y, hy, hr⟩ := he.get h
    have : a.eval (.tmp t) = y := by
      simp only [Act.eval]
      simp at hy
      simp [hy]
    rw [this]; exact hr
  | const v => exact cst_ok h
  | global g => cases h
  | func f =>
    simp only [rd, Option.some.injEq] at h
    subst h
    exact ⟨[], [], rfl, All2.nil, All2.nil⟩

theorem rd1_ok (he : All2 (TVR Φ θ objs) env a.tmps.toList) {x : Operand} {c : CV} (h : rd1 env x = some c) : CR Φ θ objs c (a.eval x) := by
  unfold rd1 at h
  split at h
  · rename_i c' hc; injection h with h; subst h; exact rd_ok he hc
  · cases h

theorem rdS_ok (he : All2 (TVR Φ θ objs) env a.tmps.toList) {x : Operand} {v : Value} (h : rdS env x = some v) : a.eval x = v ∧ v.oneCell' = true := by
  unfold rdS at h
  split at h
  · rename_i c' hc; injection h with h; subst h; exact den_sc (rd1_ok he hc)
  · cases h

theorem rdI_ok (he : All2 (TVR Φ θ objs) env a.tmps.toList) {x : Operand} {n : Int} (h : rdI env x = some n) : ∃ k, a.eval x = .int k n := by
  unfold rdI at h
  split at h
  · rename_i k m hc; injection h with h; subst h; exact ⟨k, (rdS_ok he hc).1⟩
  · cases h

theorem rdB_ok (he : All2 (TVR Φ θ objs) env a.tmps.toList) {x : Operand} {b : Bool} (h : rdB env x = some b) : a.eval x = .bool b := by
  unfold rdB at h
  split at h
  · rename_i m hc; injection h with h; subst h; exact (rdS_ok he hc).1
  · cases h

theorem cells_one {u : Value} (h : u.oneCell' = true) : u.cells.toList = [u] := by cases u <;> simp_all [Value.cells, Value.oneCell']

theorem cellsOf_ok {v : TV} {u : Value} {cs : List CV} (h : cellsOf v = some cs) (hv : TVR Φ θ objs v u) : All2 (CR Φ θ objs) cs u.cells.toList := by
  cases v with
  | v x =>
    cases x with
    | one c =>
      simp [cellsOf] at h; subst h
      rw [cells_one (CR.one hv)]; exact All2.cons hv All2.nil
    | agg cs' =>
      simp [cellsOf] at h; subst h
      obtain ⟨vs, rfl, hc⟩ := hv
      simpa [Value.cells] using hc
  | tup vs => simp [cellsOf] at h
  | unk => simp [cellsOf] at h

def Yld (P : Program) (o : Oper) (a : Act) (w : World) (v : Value) : Prop := (execOp a.eval o).run P w = .ok (.value v) w

theorem sv_ok {v : Value} (h : v.oneCell' = true) : TVR Φ θ objs (sv v) v := .sc v h

theorem binS_one {op : BinOp} {x y v : Value} (h : binS op x y = some v) : v.oneCell' = true := by
  unfold binS at h
  split at h <;> (try split at h) <;> (try split at h) <;> first
    | (injection h with h; subst h; rfl)
    | (simp at h; try (subst h; rfl))

theorem beq_dec (a b : Int) : (a == b) = decide (a = b) := by rw [Bool.eq_iff_iff]; simp
theorem bytes_dec (a b : ByteArray) : (a.toList == b.toList) = decide (a = b) := by
  rw [Bool.eq_iff_iff]
  simp only [ByteArray.toList_eq, beq_iff_eq, decide_eq_true_eq]
  exact ⟨fun h => WideShapes.bytes_inj h, fun h => by rw [h]⟩

theorem binS_ok {op : BinOp} {t : Nat} {x y v : Value} (h : binS op x y = some v) : (binOp op t x y).run P w = .ok v w := by
  unfold binS at h
  split at h
  case h_1 =>
    split at h
    · rename_i hk; subst hk; injection h with h; subst h; simp [binOp, Op.intArith]
    · cases h
  case h_2 =>
    split at h
    · rename_i hk; subst hk; injection h with h; subst h; simp [binOp, Op.intArith]
    · cases h
  case h_3 =>
    split at h
    · rename_i hk; subst hk; injection h with h; subst h; simp [binOp, Op.intArith]
    · cases h
  case h_4 =>
    split at h
    · rename_i hk; subst hk
      split at h
      · cases h
      · rename_i hb; injection h with h; subst h; simp [binOp, Op.intDiv, hb]
    · cases h
  case h_5 =>
    split at h
    · rename_i hk; subst hk
      split at h
      · cases h
      · rename_i hb; injection h with h; subst h; simp [binOp, Op.intDiv, hb]
    · cases h
  case h_6 =>
    split at h
    · rename_i hk; subst hk; injection h with h; subst h; simp [binOp, Op.intCmp, beq_dec]
    · cases h
  case h_7 =>
    split at h
    · rename_i hk; subst hk; injection h with h; subst h; simp [binOp, Op.intCmp, bne, beq_dec]
    · cases h
  case h_8 =>
    split at h
    · rename_i hk; subst hk; injection h with h; subst h; simp [binOp, Op.intCmp]
    · cases h
  case h_9 =>
    split at h
    · rename_i hk; subst hk; injection h with h; subst h; simp [binOp, Op.intCmp]
    · cases h
  case h_10 =>
    split at h
    · rename_i hk; subst hk; injection h with h; subst h; simp [binOp, Op.intCmp]
    · cases h
  case h_11 =>
    split at h
    · rename_i hk; subst hk; injection h with h; subst h; simp [binOp, Op.intCmp]
    · cases h
  case h_12 => injection h with h; subst h; simp [binOp, Op.stringOp, bytes_dec]
  case h_13 => injection h with h; subst h; simp [binOp, Op.stringOp, bytes_dec]
  case h_14 x y =>
    split at h
    · rename_i hk; injection h with h; subst h
      have e : IntKind.i64.max = 9223372036854775807 := by rfl
      have : ¬ (((x.size + y.size : Nat) : Int) > IntKind.i64.max) := by rw [e]; omega
      simp only [binOp, Op.stringOp]
      rw [if_neg this]; rfl
    · cases h
  case h_15 =>
    split at h
    · cases h
    · rename_i hb; injection h with h; subst h; simp [binOp, Op.shift, hb]
  case h_16 =>
    split at h
    · cases h
    · rename_i hb; injection h with h; subst h; simp [binOp, Op.shift, hb]
  case h_17 =>
    split at h
    · rename_i hk; subst hk; injection h with h; subst h; simp [binOp, intBits_or]
    · cases h
  case h_18 =>
    split at h
    · rename_i hk; subst hk; injection h with h; subst h; simp [binOp, intBits_and]
    · cases h
  case h_19 =>
    split at h
    · rename_i hk; subst hk; injection h with h; subst h; simp [binOp, intBits_xor]
    · cases h
  case h_20 => cases h

theorem guard_plain {op : BinOp} {t : Nat} {x y : Operand} {u v : Value} (h1 : (∀ cs, u ≠ .agg cs)) (h2 : u ≠ .nilIface) : (eqGuard op t x y u v).run P w = .ok () w := by
  unfold eqGuard
  cases u <;> first
    | exact absurd rfl h2
    | exact absurd rfl (h1 _)
    | (cases op <;> rfl)

theorem go_rfl {Φ : Fz} {θ : Th} {objs : Objs} {x : TV} {v : Value} (h : TVR Φ θ objs x v) : TVR Φ θ objs x v := h

theorem ptr_val {id n off : Nat} {v : Value} (h : CR Φ θ objs (.ptr id n off) v) {m : Nat} (hm : Lr objs id = some (some m)) (hn : n = m) : ∃ b, pblk (θ id) = some b ∧ v = .pointer (some ⟨b, off, none⟩) := by
  obtain ⟨b, hv, s, hs, hr⟩ := h
  rw [hm] at hs
  injection hs with hs
  exact ⟨b, (hr m hs.symm).2 hn, hv⟩

theorem own_val {id n : Nat} {v : Value} (h : CR Φ θ objs (.own id n) v) {m : Nat} (hm : Lr objs id = some (some m)) (hn : n = m) : v = θ id := by
  obtain ⟨_, s, hs, hr⟩ := h
  rw [hm] at hs
  injection hs with hs
  exact (hr m hs.symm).2 hn

theorem evNilCheck_ok {o : Oper} {x : Operand} (ho : o.op = .nilCheck x) (he : All2 (TVR Φ θ objs) env a.tmps.toList) {v : TV} (h : evNilCheck (rd1 env x) = some v) :
    ∃ cv, Yld P o a w cv ∧ TVR Φ θ objs v cv := by
  unfold evNilCheck at h
  split at h
  · rename_i id n off hc
    injection h with h; subst h
    have hr := rd1_ok he hc
    refine ⟨a.eval x, ?_, hr⟩
    obtain ⟨b, hv, _⟩ := hr
    unfold Yld execOp; simp only [ho, hv]; rfl
  · rename_i cs hc
    injection h with h; subst h
    have hr := rd1_ok he hc
    refine ⟨a.eval x, ?_, hr⟩
    obtain ⟨b, off, hv, _⟩ := hr
    unfold Yld execOp; simp only [ho, hv]; rfl
  · cases h

theorem asInt_int {k : IntKind} {n : Int} : (asInt (.int k n)).run P w = .ok n w := by simp [asInt, asIntOf]

theorem run_part_one {t : Nat} {d : TypeDesc} (hu : P.underlying t = some d) (hd : isAggD d = false) {cs : Array Value} {off : Nat} {v : Value} (hv : cs[off]? = some v) : (part t cs off).run P w = .ok v w := by
  unfold part
  simp only [Sem.run_bind, run_isAgg hu, Result.andThen_ok, hd, Bool.false_eq_true, if_false, hv, Sem.run_pure]

theorem run_part_agg {t : Nat} {d : TypeDesc} (hu : P.underlying t = some d) (hd : isAggD d = true) {i : TypeInfo} (hi : P.info? t = some i) {cs : Array Value} {off : Nat} : (part t cs off).run P w = .ok (.agg (cs.extract off (off + i.size))) w := by
  unfold part
  simp [Sem.run_bind, run_isAgg hu, Result.andThen_ok, hd, sizeOf, typeInfo, hi]

theorem agg_cut {cs : List CV} {vs : List Value} (h : All2 (CR Φ θ objs) cs vs) (off sz : Nat) : V1R Φ θ objs (.agg ((cs.drop off).take sz)) (.agg (vs.toArray.extract off (off + sz))) := by
  refine ⟨(vs.drop off).take sz, ?_, (h.drop off).take sz⟩
  congr 1
  apply Array.ext'
  simp [List.take_drop]

theorem part_ok {t sz off : Nat} {ag : Bool} {d : TypeDesc} {i : TypeInfo} (hu : P.underlying t = some d) (hd : isAggD d = ag) (hi : P.info? t = some i) (hsz : i.size = sz) {cs : List CV} {vs : List Value}
    (h : All2 (CR Φ θ objs) cs vs) (hle : off + sz ≤ cs.length) {v : TV} (hv : mk1 ag ((cs.drop off).take sz) = some v) : ∃ u, (part t vs.toArray off).run P w = .ok u w ∧ TVR Φ θ objs v u := by
  unfold mk1 at hv
  cases ag with
  | true =>
    simp at hv; subst hv
    exact ⟨_, run_part_agg hu hd hi, by rw [hsz]; exact agg_cut h off sz⟩
  | false =>
    simp at hv
    split at hv
    · rename_i c hc
      injection hv with hv; subst hv
      have h0 : ((cs.drop off).take sz)[0]? = some c := by rw [hc]; rfl
      have h1 : cs[off]? = some c := by
        rw [List.getElem?_take] at h0
        split at h0
        · simpa using h0
        · cases h0
      obtain ⟨u, hu', hr⟩ := h.get h1
      exact ⟨u, run_part_one hu hd (by simpa using hu'), hr⟩
    · cases hv

theorem evField_ok (hC : CfgOk P C) {o : Oper} {s : Nat} {x : Operand} {f : Nat} (ho : o.op = .field s x f) (he : All2 (TVR Φ θ objs) env a.tmps.toList) {v : TV} (h : evField (C.ti s) (rd env x) f = some v) :
    ∃ cv, Yld P o a w cv ∧ TVR Φ θ objs v cv := by
  unfold evField at h
  split at h
  · rename_i ti cs hti hx
    obtain ⟨d, hd, _, hk⟩ := (hC.ty _ _ hti).desc
    split at h
    · rename_i off sz ag hf
      split at h
      · rename_i hle
        obtain ⟨vs, hv, hcs⟩ := rd_ok he hx
        unfold TI.fs at hf
        split at hf
        · rename_i fs hkind
          rw [hkind] at hk
          obtain ⟨fields, rfl, _, hfs⟩ := hk
          obtain ⟨fld, hfld, rfl, ⟨i, hi, hsz⟩, ⟨d', hd', hag⟩⟩ := hfs f off sz ag hf
          obtain ⟨u, hu, hr⟩ := part_ok (P := P) (w := w) hd' hag hi hsz hcs hle h
          refine ⟨u, ?_, hr⟩
          unfold Yld execOp
          simp [ho, hv, Instr.field, run_underlying hd, hfld, asAgg, hu]
        · simp at hf
      · cases h
    · cases h
  · cases h

theorem fp_drop {cs : List DV} {v : Value} (h : CR Φ θ objs (.fp cs) v) (o : Nat) : ∃ ad, v = .pointer (some ad) ∧ CR Φ θ objs (.fp (cs.drop o)) (.pointer (some (ad.add o))) ∧ ad.spot = none := by
  obtain ⟨b, off, rfl, hc⟩ := h
  refine ⟨⟨b, off, none⟩, rfl, ⟨b, off + o, ?_, fun i x hx => ?_⟩, rfl⟩
  · unfold Addr.add; split <;> simp_all
  · obtain ⟨u, hu, hd⟩ := hc (o + i) x (by simpa using hx)
    exact ⟨u, by rw [Nat.add_assoc]; exact hu, hd⟩

theorem ptr_add {id n off : Nat} {v : Value} (h : CR Φ θ objs (.ptr id n off) v) (o : Nat) : ∃ ad, v = .pointer (some ad) ∧ CR Φ θ objs (.ptr id n (off + o)) (.pointer (some (ad.add o))) := by
  obtain ⟨b, rfl, hr⟩ := h
  refine ⟨_, rfl, b, ?_, hr⟩
  unfold Addr.add; split <;> simp_all

theorem evFieldAddr_ok (hC : CfgOk P C) {o : Oper} {s : Nat} {x : Operand} {f : Nat} (ho : o.op = .fieldAddr s x f) (he : All2 (TVR Φ θ objs) env a.tmps.toList) {v : TV}
    (h : evFieldAddr (C.ti s) (rd1 env x) f = some v) : ∃ cv, Yld P o a w cv ∧ TVR Φ θ objs v cv := by
  have fld : ∀ ti, C.ti s = some ti → ∀ o' sz ag, ti.fs[f]? = some (o', sz, ag) → sz ≠ 0 → ∀ ad : Addr, (Instr.fieldAt s (.pointer (some ad)) f).run P w = .ok (.pointer (some (ad.add o'))) w := by
    intro ti hti o' sz ag hf hsz0 ad
    obtain ⟨d, hd, _, hk⟩ := (hC.ty _ _ hti).desc
    unfold TI.fs at hf
    split at hf
    · rename_i fs hkind
      rw [hkind] at hk
      obtain ⟨fields, rfl, _, hfs⟩ := hk
      obtain ⟨fld, hfld, rfl, ⟨i, hi, hsz⟩, _⟩ := hfs f o' sz ag hf
      have : i.size ≠ 0 := by omega
      simp [Instr.fieldAt, run_underlying hd, hfld, Instr.sureAddr, fieldPlace, sizeOf, typeInfo, hi, this]
    · simp at hf
  unfold evFieldAddr at h
  split at h
  · rename_i ti id n off hti hx
    split at h
    · rename_i o' sz ag hf
      split at h
      · cases h
      · rename_i hsz
        injection h with h; subst h
        have hr := rd1_ok he hx
        obtain ⟨ad, had, hr'⟩ := ptr_add hr o'
        refine ⟨.pointer (some (ad.add o')), ?_, hr'⟩
        unfold Yld execOp
        simp [ho, had, fld ti hti o' sz ag hf hsz ad]
    · cases h
  · rename_i ti cs hti hx
    split at h
    · rename_i o' sz ag hf
      split at h
      · cases h
      · rename_i hsz
        injection h with h; subst h
        have hr := rd1_ok he hx
        obtain ⟨ad, had, hr', _⟩ := fp_drop hr o'
        refine ⟨.pointer (some (ad.add o')), ?_, hr'⟩
        unfold Yld execOp
        simp [ho, had, fld ti hti o' sz ag hf hsz ad]
    · cases h
  · cases h

end
end Go.Vm

/- Operations that see their operands alone, on. -/
set_option linter.unusedVariables false
set_option linter.unusedSimpArgs false
namespace Go.Vm
open Go Go.RowKit

section
variable {P : Program} {Φ : Fz} {θ : Th} {objs : Objs} {env : Env} {a : Act} {w : World} {C : Cfg}

theorem den_sl_at {xs : List (List DV)} {v : Value} (h : Den Φ (.sl xs) v) {j : Nat} {x : List DV} (hx : xs[j]? = some x) :
    ∃ k b o c, v = .slice (some ⟨b, o, none⟩) xs.length c ∧ x.length = k ∧ 0 < k ∧ (∀ y ∈ xs, y.length = k) ∧ ∀ i y, x[i]? = some y → ∃ u, Φ b (o + j * k + i) = some u ∧ Den Φ y u := by
  cases h with
  | nil a c => simp at hx
  | sl _ k b o c vs hne hk hk0 hc hcell hden =>
    have hj := (List.getElem?_eq_some_iff.1 hx).1
    have hxk := hk x (List.mem_of_getElem? hx)
    refine ⟨k, b, o, c, rfl, hxk, hk0, hk, fun i y hy => ?_⟩
    have hi := (List.getElem?_eq_some_iff.1 hy).1
    exact ⟨vs j i, by rw [Nat.add_assoc]; exact hcell j i hj (by omega), hden j i x y hx hy⟩

theorem den_sl_form {xs : List (List DV)} {v : Value} (h : Den Φ (.sl xs) v) : ∃ ad c, v = .slice ad xs.length c ∧ xs.length ≤ c := by
  cases h with
  | nil a c => exact ⟨a, c, rfl, Nat.zero_le _⟩
  | sl _ k b o c _ _ _ _ hc => exact ⟨_, c, rfl, hc⟩

theorem addr_zero (a : Addr) : a.add 0 = a := by unfold Addr.add; cases a; simp

theorem cut_zero (c : Nat) (ad : Option Addr) (s : Nat) : (if c = (0 : Int).toNat then ad else ad.map (·.add ((0 : Int).toNat * s))) = ad := by
  split
  · rfl
  · cases ad <;> simp [addr_zero]

theorem addr_plus (b o j : Nat) : (⟨b, o, none⟩ : Addr).add j = ⟨b, o + j, none⟩ := by unfold Addr.add; split <;> simp_all

theorem evIndexAddr_ok (hC : CfgOk P C) {o : Oper} {t : Nat} {x y : Operand} (ho : o.op = .indexAddr t x y) (he : All2 (TVR Φ θ objs) env a.tmps.toList) {v : TV}
    (h : evIndexAddr C t (rd1 env x) (rdI env y) = some v) : ∃ cv, Yld P o a w cv ∧ TVR Φ θ objs v cv := by
  unfold evIndexAddr at h
  split at h
  case h_2 => cases h
  case h_1 ti i hti hi =>
  obtain ⟨k, hiv⟩ := rdI_ok he hi
  obtain ⟨d, hd, _, hk⟩ := (hC.ty _ _ hti).desc
  split at h
  case h_5 => cases h
  case h_1 e id n hkind hx =>
    rw [hkind] at hk
    have hk : d = .slice e := hk
    subst hk
    split at h
    case h_2 => cases h
    case h_1 te hte =>
    split at h
    case isFalse => cases h
    case isTrue hin =>
    injection h with h; subst h
    obtain ⟨⟨ad, c, hv, hb, _⟩, hr⟩ := rd1_ok he hx
    obtain ⟨b, rfl⟩ := hb (by omega)
    have hs := (hC.ty _ _ hte).size
    refine ⟨.pointer (some ((⟨b, 0, none⟩ : Addr).add (i.toNat * te.size))), ?_, b, ?_, ?_⟩
    · unfold Yld execOp
      simp [ho, hv, hiv, Instr.indexAt, asIntOf, run_underlying hd, hin, hs]
    · unfold Addr.add; split <;> simp_all
    · obtain ⟨s, hs', hr⟩ := hr
      refine ⟨s, hs', fun m hm => ⟨(hr m hm).1, fun hn => ?_⟩⟩
      have := (hr m hm).2 hn
      rw [← this, hv]; rfl
  case h_2 e xs hkind hx =>
    rw [hkind] at hk
    have hk : d = .slice e := hk
    subst hk
    split at h
    case h_2 => cases h
    case h_1 te hte =>
    split at h
    case isFalse => cases h
    case isTrue h0 =>
    split at h
    case h_2 => cases h
    case h_1 x' hx' =>
    split at h
    case isFalse => cases h
    case isTrue hlen =>
    injection h with h; subst h
    obtain ⟨k', b, off, c, hv, hxk, hk0, hall, hcell⟩ := den_sl_at (rd1_ok he hx) hx'
    have hj := (List.getElem?_eq_some_iff.1 hx').1
    have hs := (hC.ty _ _ hte).size
    have hin : 0 ≤ i ∧ i < (xs.length : Int) := ⟨h0, by omega⟩
    refine ⟨.pointer (some ((⟨b, off, none⟩ : Addr).add (i.toNat * te.size))), ?_, b, off + i.toNat * te.size, ?_, fun i' y hy => ?_⟩
    · unfold Yld execOp
      simp [ho, hv, hiv, Instr.indexAt, asIntOf, run_underlying hd, hin, hs]
    · unfold Addr.add; split <;> simp_all
    · obtain ⟨u, hu, hden⟩ := hcell i' y hy
      rw [← hlen, hxk]; exact ⟨u, hu, hden⟩
  case h_3 m e id n off hkind hx =>
    rw [hkind] at hk
    have hk : d = .array m e := hk
    subst hk
    split at h
    case h_2 => cases h
    case h_1 te hte =>
    split at h
    case isFalse => cases h
    case isTrue hin =>
    injection h with h; subst h
    obtain ⟨ad, had, hr'⟩ := ptr_add (rd1_ok he hx) (i.toNat * te.size)
    have hs := (hC.ty _ _ hte).size
    refine ⟨.pointer (some (ad.add (i.toNat * te.size))), ?_, hr'⟩
    unfold Yld execOp
    simp [ho, had, hiv, Instr.indexAt, asIntOf, run_underlying hd, hin, hs, Instr.sureAddr]
  case h_4 e id n lo hi2 k2 hkind hx =>
    rw [hkind] at hk
    have hk : d = .slice e := hk
    subst hk
    split at h
    case h_2 => cases h
    case h_1 te hte =>
    split at h
    case isFalse => cases h
    case isTrue hin =>
    injection h with h; subst h
    obtain ⟨hlo, hhi, ad, c, hv, hcc, _, hr⟩ := rd1_ok he hx
    obtain ⟨hks, h0, h1⟩ := hin
    obtain ⟨b, rfl, hrr⟩ := hr (by omega)
    have hs := (hC.ty _ _ hte).size
    have hin2 : 0 ≤ i ∧ i < ((hi2 - lo : Nat) : Int) := ⟨h0, by omega⟩
    refine ⟨.pointer (some ((⟨b, lo * k2, none⟩ : Addr).add (i.toNat * te.size))), ?_, b, ?_, ?_⟩
    · unfold Yld execOp
      simp only [ho, hv, hiv, Instr.indexAt, asIntOf, run_underlying hd, hin2, hs, Sem.run_bind, Result.andThen_ok]
      simp [hin2, run_underlying hd, hs, asInt, asIntOf]
    · rw [hks, Nat.add_mul, addr_plus]
    · obtain ⟨s, hs', hr⟩ := hrr
      refine ⟨s, hs', fun m hm => ⟨(hr m hm).1, fun hn => ?_⟩⟩
      obtain ⟨c0, hc0⟩ := (hr m hm).2 hn
      rw [hc0]; rfl

theorem evIndex_ok (hC : CfgOk P C) {o : Oper} {t : Nat} {x y : Operand} (ho : o.op = .index t x y) (he : All2 (TVR Φ θ objs) env a.tmps.toList) {v : TV}
    (h : evIndex C t (rd env x) (rdI env y) = some v) : ∃ cv, Yld P o a w cv ∧ TVR Φ θ objs v cv := by
  unfold evIndex at h
  split at h
  case h_2 => cases h
  case h_1 ti i hti hi =>
  obtain ⟨k, hiv⟩ := rdI_ok he hi
  obtain ⟨d, hd, _, hk⟩ := (hC.ty _ _ hti).desc
  split at h
  case h_3 => cases h
  case h_1 s hkind hx =>
    rw [hkind] at hk
    have hk : d = .string := hk
    subst hk
    split at h
    case isFalse => cases h
    case isTrue h0 =>
    split at h
    case h_2 => cases h
    case h_1 b hb =>
    injection h with h; subst h
    have hv := (den_sc (rd_ok he hx)).1
    refine ⟨.int .u8 b.toNat, ?_, sv_ok rfl⟩
    unfold Yld execOp
    simp [ho, hv, hiv, Instr.index, asIntOf, run_underlying hd, h0, hb]
  case h_2 m e cs hkind hx =>
    rw [hkind] at hk
    have hk : d = .array m e := hk
    subst hk
    split at h
    case h_2 => cases h
    case h_1 te hte =>
    split at h
    case isFalse => cases h
    case isTrue hin =>
    obtain ⟨vs, hv, hcs⟩ := rd_ok he hx
    obtain ⟨i', z, hi', hsz, _⟩ := (hC.ty _ _ hte).info
    obtain ⟨d', hd', hag, _⟩ := (hC.ty _ _ hte).desc
    obtain ⟨u, hu, hr⟩ := part_ok (P := P) (w := w) hd' hag hi' hsz hcs hin.2.2 h
    have hs := (hC.ty _ _ hte).size
    refine ⟨u, ?_, hr⟩
    unfold Yld execOp
    simp [ho, hv, hiv, Instr.index, asIntOf, run_underlying hd, hin.1, hin.2.1, hs, hu]

theorem evExtract_ok {o : Oper} {x : Operand} {i : Nat} (ho : o.op = .extract x i) (he : All2 (TVR Φ θ objs) env a.tmps.toList) {v : TV}
    (h : evExtract (rd env x) i = some v) : ∃ cv, Yld P o a w cv ∧ TVR Φ θ objs v cv := by
  unfold evExtract at h
  split at h
  case h_2 => cases h
  case h_1 vs hx =>
  split at h
  case h_2 => cases h
  case h_1 u hu =>
  injection h with h; subst h
  obtain ⟨us, hv, hall⟩ := rd_ok he hx
  obtain ⟨cv, hcv, hr⟩ := hall.get hu
  refine ⟨cv, ?_, hr⟩
  unfold Yld execOp
  simp [ho, hv, Instr.extract, hcv]

theorem bound_ok (he : All2 (TVR Φ θ objs) env a.tmps.toList) {x : Option Operand} {d n : Int} (h : bound env x d = some n) : (x = none ∧ n = d) ∨ ∃ o k, x = some o ∧ a.eval o = .int k n := by
  unfold bound at h
  split at h
  · rename_i o; obtain ⟨k, hk⟩ := rdI_ok he h; exact .inr ⟨o, k, rfl, hk⟩
  · injection h with h; exact .inl ⟨rfl, h.symm⟩

theorem run_bounds (isSlice : Bool) (len cap : Nat) (lo hi : Option Value) (l h : Int) (hl : (lo = none ∧ l = 0) ∨ ∃ k, lo = some (.int k l)) (hh : (hi = none ∧ h = len) ∨ ∃ k, hi = some (.int k h)) (h0 : 0 ≤ l) (h1 : l ≤ h) (h2 : h ≤ cap) :
    (Instr.sliceBounds isSlice len cap lo hi none).run P w = .ok (l.toNat, h.toNat, cap) w := by
  have e : ((h.toNat : Nat) : Int) = h := by omega
  rcases hl with ⟨rfl, rfl⟩ | ⟨k, rfl⟩ <;> rcases hh with ⟨rfl, rfl⟩ | ⟨j, rfl⟩
  · simp [Instr.sliceBounds]
  · simp [Instr.sliceBounds, Instr.sliceBound, asIntOf, h1, h2]
  · have : l ≤ (len : Int) := h1
    simp [Instr.sliceBounds, Instr.sliceBound, asIntOf, h0, this]
  · have : 0 ≤ h := by omega
    simp [Instr.sliceBounds, Instr.sliceBound, asIntOf, h0, h1, h2, this, e]

theorem run_bounds3 (isSlice : Bool) (len cap : Nat) (lo : Option Value) (kh km : IntKind) (l h m : Int) (hl : (lo = none ∧ l = 0) ∨ ∃ k, lo = some (.int k l)) (h0 : 0 ≤ l) (h1 : l ≤ h) (h2 : h ≤ m) (h3 : m ≤ cap) :
    (Instr.sliceBounds isSlice len cap lo (some (.int kh h)) (some (.int km m))).run P w = .ok (l.toNat, h.toNat, m.toNat) w := by
  have e : ((h.toNat : Nat) : Int) = h := by omega
  have e2 : ((m.toNat : Nat) : Int) = m := by omega
  have hh : 0 ≤ h := by omega
  have hm : 0 ≤ m := by omega
  rcases hl with ⟨rfl, rfl⟩ | ⟨k, rfl⟩
  · simp [Instr.sliceBounds, Instr.sliceBound, asIntOf, h1, h2, h3, hh, hm, e, e2]
  · simp [Instr.sliceBounds, Instr.sliceBound, asIntOf, h0, h1, h2, h3, hh, hm, e, e2]

theorem den_cut {xs : List (List DV)} {ad : Option Addr} {n c0 c : Nat} (h : Den Φ (.sl xs) (.slice ad n c0)) (l m : Nat) (hl : l ≤ m) (hm : m ≤ xs.length) (hmc : m ≤ c) {size : Nat} (hk : ∀ x ∈ xs, x.length = size) :
    Den Φ (.sl ((xs.take m).drop l)) (.slice (if c = l then ad else ad.map (·.add (l * size))) (m - l) (c - l)) := by
  cases h with
  | nil a c0 => 
    simp at hm; subst hm
    have : l = 0 := by omega
    subst this
    simp; exact .nil _ _
  | sl _ k b o c0 vs hne hk' hk0 hxc hcell hden =>
    by_cases hlm : l = m
    · subst hlm
      have : (xs.take l).drop l = [] := by simp
      rw [this, Nat.sub_self]; exact .nil _ _
    · have hklen : size = k := by
        cases xs with
        | nil => exact absurd rfl hne
        | cons x xs => rw [← hk x (by simp), hk' x (by simp)]
      subst hklen
      have hne' : (xs.take m).drop l ≠ [] := by
        intro h0
        have := congrArg List.length h0
        simp at this; omega
      have hcl : c ≠ l := by omega
      have hlen : ((xs.take m).drop l).length = m - l := by simp; omega
      rw [if_neg hcl]
      have hadd : (some (⟨b, o, none⟩ : Addr)).map (·.add (l * size)) = some ⟨b, o + l * size, none⟩ := by
        simp only [Option.map_some]; unfold Addr.add; split <;> simp_all
      rw [hadd, ← hlen]
      refine .sl _ size b (o + l * size) (c - l) (fun j i => vs (l + j) i) hne' (fun x hx => hk x ?_) hk0 (by rw [hlen]; omega) (fun j i hj hi => ?_) (fun j i x y hx hy => ?_)
      · exact List.mem_of_mem_take (List.mem_of_mem_drop hx)
      · have := hcell (l + j) i (by rw [hlen] at hj; omega) hi
        rw [← this]; congr 1; rw [Nat.add_mul]; omega
      · refine hden (l + j) i x y ?_ hy
        rw [List.getElem?_drop, List.getElem?_take] at hx
        split at hx
        · exact hx
        · cases hx

set_option maxHeartbeats 4000000 in
theorem evSlice_ok (hC : CfgOk P C) {o : Oper} {t : Nat} {x : Operand} {lo hi : Option Operand} {mx : Option Operand} (ho : o.op = .slice t x lo hi mx) (hmh : (mx.isSome && hi.isNone) = false) (he : All2 (TVR Φ θ objs) env a.tmps.toList) {v : TV}
    (h : evSlice C t (rd1 env x) (bound env lo) (bound env hi) (bound env mx) mx.isNone = some v) : ∃ cv, Yld P o a w cv ∧ TVR Φ θ objs v cv := by
  have hb : ∀ (y : Option Operand) (d n : Int), bound env y d = some n → (y.map a.eval = none ∧ n = d) ∨ ∃ k, y.map a.eval = some (.int k n) := by
    intro y d n hn
    rcases bound_ok he hn with ⟨rfl, rfl⟩ | ⟨o, k, rfl, hk⟩
    · exact .inl ⟨rfl, rfl⟩
    · exact .inr ⟨k, by simp [hk]⟩
  unfold evSlice at h
  split at h
  case h_5 => cases h
  case h_3 ti id n hti hx =>
    obtain ⟨d, hd, _, hk⟩ := (hC.ty _ _ hti).desc
    split at h
    case h_2 => cases h
    case h_1 e l m hkind hl hm hmx =>
    have hmx0 : mx = none := by
      cases mx with
      | none => rfl
      | some y => cases hmx
    subst hmx0
    rw [hkind] at hk
    have hk : d = .slice e := hk
    subst hk
    split at h
    case h_2 => cases h
    case h_1 te hte =>
    split at h
    case isFalse => cases h
    case isTrue hin =>
    injection h with h; subst h
    obtain ⟨h0, h1, h2⟩ := hin
    obtain ⟨⟨ad, c, hv, hb', hnc⟩, hr⟩ := rd1_ok he hx
    have hs := (hC.ty _ _ hte).size
    have hrb := run_bounds (P := P) (w := w) true n c _ _ l m (hb _ _ _ hl) (hb _ _ _ hm) h0 h1 (by omega)
    refine ⟨.slice (if c = l.toNat then ad else ad.map (·.add (l.toNat * te.size))) (m.toNat - l.toNat) (c - l.toNat), ?_, by omega, by omega, _, _, rfl, by omega, fun h00 => ?_, fun hlt => ?_⟩
    · unfold Yld execOp
      simp [ho, hv, Instr.sliceAt, Instr.slice, run_underlying hd, hrb, hs]
    · obtain rfl : l = 0 := by omega
      rw [cut_zero]
      obtain ⟨s, hs', hr⟩ := hr
      exact ⟨s, hs', fun m hm => ⟨(hr m hm).1, fun hn => by rw [← (hr m hm).2 hn, hv]; rfl⟩⟩
    · obtain ⟨b, rfl⟩ := hb' (by omega)
      refine ⟨b, ?_, ?_⟩
      · rw [if_neg (by omega)]
        simp only [Option.map_some, addr_plus, Nat.zero_add]
      · obtain ⟨s, hs', hr⟩ := hr
        exact ⟨s, hs', fun m hm => ⟨(hr m hm).1, fun hn => ⟨c, by rw [← (hr m hm).2 hn, hv]⟩⟩⟩
  case h_4 ti id n lo0 hi0 k0 hti hx =>
    obtain ⟨d, hd, _, hk⟩ := (hC.ty _ _ hti).desc
    split at h
    case h_2 => cases h
    case h_1 e l m hkind hl hm hmx =>
    have hmx0 : mx = none := by
      cases mx with
      | none => rfl
      | some y => cases hmx
    subst hmx0
    rw [hkind] at hk
    have hk : d = .slice e := hk
    subst hk
    split at h
    case h_2 => cases h
    case h_1 te hte =>
    split at h
    case isFalse => cases h
    case isTrue hin =>
    injection h with h; subst h
    obtain ⟨hks, h0, h1, h2⟩ := hin
    obtain ⟨hlo, hhi, ad, c, hv, hcc, hz, hr⟩ := rd1_ok he hx
    have hs := (hC.ty _ _ hte).size
    have hcast : ((hi0 : Int) - lo0) = ((hi0 - lo0 : Nat) : Int) := by omega
    rw [hcast] at hm
    have hrb := run_bounds (P := P) (w := w) true (hi0 - lo0) c _ _ l m (hb _ _ _ hl) (hb _ _ _ hm) h0 h1 (by omega)
    refine ⟨.slice (if c = l.toNat then ad else ad.map (·.add (l.toNat * te.size))) (m.toNat - l.toNat) (c - l.toNat), ?_, by omega, by omega, (if c = l.toNat then ad else ad.map (·.add (l.toNat * te.size))), c - l.toNat, ?_, by omega, fun h00 => ?_, fun hlt => ?_⟩
    · unfold Yld execOp
      simp [ho, hv, Instr.sliceAt, Instr.slice, run_underlying hd, hrb, hs]
    · congr 1; omega
    · obtain rfl : l = 0 := by omega
      rw [cut_zero]
      exact hz (by omega)
    · obtain ⟨b, rfl, hrr⟩ := hr (by omega)
      refine ⟨b, ?_, hrr⟩
      rw [if_neg (by omega)]
      simp only [Option.map_some]
      rw [hks, Nat.add_mul, addr_plus]
  case h_1 ti s hti hx =>
    obtain ⟨d, hd, _, hk⟩ := (hC.ty _ _ hti).desc
    split at h
    case h_2 => cases h
    case h_1 l m hkind hl hm hmx =>
    have hmx0 : mx = none := by
      cases mx with
      | none => rfl
      | some y => cases hmx
    subst hmx0
    rw [hkind] at hk
    have hk : d = .string := hk
    subst hk
    split at h
    case isFalse => cases h
    case isTrue hin =>
    injection h with h; subst h
    have hv := (den_sc (rd1_ok he hx)).1
    refine ⟨.string (s.extract l.toNat m.toNat), ?_, sv_ok rfl⟩
    have hr := run_bounds (P := P) (w := w) false s.size s.size _ _ l m (hb _ _ _ hl) (hb _ _ _ hm) hin.1 hin.2.1 hin.2.2
    unfold Yld execOp
    simp [ho, hv, Instr.sliceAt, Instr.slice, run_underlying hd, hr]
  case h_2 ti xs hti hx =>
    obtain ⟨d, hd, _, hk⟩ := (hC.ty _ _ hti).desc
    split at h
    case h_2 => cases h
    case h_1 e l m mm hkind hl hm hmx =>
    rw [hkind] at hk
    have hk : d = .slice e := hk
    subst hk
    split at h
    case h_2 => cases h
    case h_1 te hte =>
    split at h
    case isFalse => cases h
    case isTrue hin =>
    injection h with h; subst h
    have hden := rd1_ok he hx
    obtain ⟨ad, c, hv, hc⟩ := den_sl_form hden
    have hcut := fun c' hc' => den_cut (c := c') (hv ▸ hden) l.toNat m.toNat (by omega) (by omega) hc' (size := te.size) (fun x hx' => by simpa using List.all_eq_true.1 hin.2.2.2.2 x hx')
    have hs := (hC.ty _ _ hte).size
    cases mx with
    | none =>
      have hr := run_bounds (P := P) (w := w) true xs.length c _ _ l m (hb _ _ _ hl) (hb _ _ _ hm) hin.1 hin.2.1 (by omega)
      refine ⟨_, ?_, hcut c (by omega)⟩
      unfold Yld execOp
      simp [ho, hv, Instr.sliceAt, Instr.slice, run_underlying hd, hr, hs]
    | some y =>
      cases hi with
      | none => simp at hmh
      | some z =>
        rcases hb _ _ _ hmx with ⟨h1, _⟩ | ⟨km, h1⟩
        · simp at h1
        rcases hb _ _ _ hm with ⟨h2, _⟩ | ⟨kh, h2⟩
        · simp at h2
        simp at h1 h2
        have hr := run_bounds3 (P := P) (w := w) true xs.length c _ kh km l m mm (hb _ _ _ hl) hin.1 hin.2.1 (by omega) (by omega)
        refine ⟨_, ?_, hcut mm.toNat (by omega)⟩
        unfold Yld execOp
        simp [ho, hv, h1, h2, Instr.sliceAt, Instr.slice, run_underlying hd, hr, hs]

theorem callee_eq {c : Call} {b : Builtin} (hb : c.callee = .builtin b) : c = { callee := .builtin b, args := c.args, argTypes := c.argTypes } := by
  cases c; simp at hb; subst hb; rfl

theorem run_builtin {o : Oper} {c : Call} {b : Builtin} (ho : o.op = .call c) (hb : c.callee = .builtin b) :
    execOp a.eval o = builtin b c.argTypes o.type (c.args.map fun | .const _ => true | _ => false) (c.args.map a.eval) := by
  unfold execOp
  simp only [ho, resolve, hb, invoke]
  rfl

theorem arr2 {α : Type} {x : Array α} {l : List α} (h : x.toList = l) : x = l.toArray := by rw [← h]

theorem evUSD_ok {o : Oper} {c : Call} {x : Operand} (ho : o.op = .call c) (hb : c.callee = .builtin .unsafeSliceData) (ha : c.args.toList = [x])
    (he : All2 (TVR Φ θ objs) env a.tmps.toList) {v : TV} (h : evUSD (rd1 env x) = some v) : ∃ cv, Yld P o a w cv ∧ TVR Φ θ objs v cv := by
  have hrun : execOp a.eval o = _ := run_builtin ho hb
  unfold Yld
  rw [hrun, arr2 ha]
  unfold evUSD at h
  split at h
  case h_2 => cases h
  case h_1 id n hx =>
  split at h
  case isFalse => cases h
  case isTrue h0 =>
  injection h with h; subst h
  obtain ⟨⟨ad, cc, hv, hb0, hcc⟩, hr⟩ := rd1_ok he hx
  obtain ⟨b, rfl⟩ := hb0 h0
  refine ⟨.pointer (some ⟨b, 0, none⟩), ?_, b, rfl, ?_⟩
  · have := Go.Lib.run_unsafeSliceData_row (P := P) (w := w) c.argTypes o.type ⟨b, 0, none⟩ n cc (by omega)
    simp [builtin, hv, this]
  · obtain ⟨s, hs, hm⟩ := hr
    refine ⟨s, hs, fun m hsm => ⟨(hm m hsm).1, fun e => ?_⟩⟩
    rw [← (hm m hsm).2 e, hv]; rfl

theorem evLen_ok (hC : CfgOk P C) {o : Oper} {c : Call} {x : Operand} {t : Nat} (ho : o.op = .call c) (hb : c.callee = .builtin .len) (ha : c.args.toList = [x]) (ht : c.argTypes.toList = [t])
    (he : All2 (TVR Φ θ objs) env a.tmps.toList) {v : TV} (h : evLen (C.ti t) (rd1 env x) = some v) : ∃ cv, Yld P o a w cv ∧ TVR Φ θ objs v cv := by
  have hrun : execOp a.eval o = _ := run_builtin ho hb
  unfold Yld
  rw [hrun, arr2 ha, arr2 ht]
  unfold evLen at h
  split at h
  case h_2 => cases h
  case h_1 ti c' hti hx =>
  obtain ⟨d, hd, _, hk⟩ := (hC.ty _ _ hti).desc
  have hr := rd1_ok he hx
  split at h
  case h_6 => cases h
  case h_1 e id n hkind =>
    injection h with h; subst h
    rw [hkind] at hk
    have hk : d = .slice e := hk
    subst hk
    obtain ⟨⟨ad, cc, hv, _⟩, _⟩ := hr
    refine ⟨.int .i64 n, ?_, sv_ok rfl⟩
    simp [builtin, Builtin.len_, run_underlying hd, hv, goInt]
  case h_2 e id n lo hi k0 hkind =>
    injection h with h; subst h
    rw [hkind] at hk
    have hk : d = .slice e := hk
    subst hk
    obtain ⟨hlo, _, ad, cc, hv, _⟩ := hr
    have hcast : ((hi : Int) - lo) = ((hi - lo : Nat) : Int) := by omega
    rw [hcast]
    refine ⟨.int .i64 (hi - lo : Nat), ?_, sv_ok rfl⟩
    simp [builtin, Builtin.len_, run_underlying hd, hv, goInt]
  case h_3 e xs hkind =>
    injection h with h; subst h
    rw [hkind] at hk
    have hk : d = .slice e := hk
    subst hk
    obtain ⟨ad, cc, hv, _⟩ := den_sl_form hr
    refine ⟨.int .i64 xs.length, ?_, sv_ok rfl⟩
    simp [builtin, Builtin.len_, run_underlying hd, hv, goInt]
  case h_4 e hkind =>
    injection h with h; subst h
    rw [hkind] at hk
    have hk : d = .slice e := hk
    subst hk
    have hv : a.eval x = .slice none 0 0 := hr
    refine ⟨.int .i64 0, ?_, sv_ok rfl⟩
    simp [builtin, Builtin.len_, run_underlying hd, hv, goInt]
  case h_5 s hkind =>
    injection h with h; subst h
    rw [hkind] at hk
    have hk : d = .string := hk
    subst hk
    have hv := (den_sc hr).1
    refine ⟨.int .i64 s.size, ?_, sv_ok rfl⟩
    simp [builtin, Builtin.len_, run_underlying hd, hv, goInt]

theorem evMM_ok {mx : Bool} {o : Oper} {c : Call} {x y : Operand} (ho : o.op = .call c) (hb : c.callee = .builtin (if mx then .max else .min)) (ha : c.args.toList = [x, y])
    (he : All2 (TVR Φ θ objs) env a.tmps.toList) {v : TV} (h : evMM mx (rdS env x) (rdS env y) = some v) : ∃ cv, Yld P o a w cv ∧ TVR Φ θ objs v cv := by
  have hrun : execOp a.eval o = _ := run_builtin ho hb
  unfold Yld
  rw [hrun, arr2 ha]
  unfold evMM at h
  split at h
  case h_2 => cases h
  case h_1 m n hx hy =>
  injection h with h; subst h
  have h1 := (rdS_ok he hx).1
  have h2 := (rdS_ok he hy).1
  refine ⟨_, ?_, sv_ok rfl⟩
  cases mx <;> simp [builtin, Builtin.max_, Builtin.min_, Builtin.max2, Builtin.min2, h1, h2]

theorem evConv_ok (hC : CfgOk P C) {o : Oper} {src dst : Nat} {x : Operand} (ho : o.op = .convert src dst x) (he : All2 (TVR Φ θ objs) env a.tmps.toList) {v : TV}
    (h : evConv C src dst (rd env x) = some v) : ∃ cv, Yld P o a w cv ∧ TVR Φ θ objs v cv := by
  unfold evConv at h
  split at h
  case h_3 => cases h
  case h_1 tsrc ti j n hsrc hti hx =>
    obtain ⟨d, hd, _, hk⟩ := (hC.ty _ _ hti).desc
    obtain ⟨ds, hds, _⟩ := (hC.ty _ _ hsrc).desc
    split at h
    case h_2 => cases h
    case h_1 k hkind =>
    injection h with h; subst h
    rw [hkind] at hk
    have hk : d = .int k := hk
    subst hk
    have hv := (den_sc (rd_ok he hx)).1
    refine ⟨.int k (k.wrap n), ?_, sv_ok rfl⟩
    unfold Yld execOp
    cases ds <;> simp [ho, hv, convert, run_underlying hd, run_underlying hds, Conv.intToInt]
  case h_2 tsrc ti s hsrc hti hx =>
    obtain ⟨d, hd, _, hk⟩ := (hC.ty _ _ hti).desc
    obtain ⟨ds, hds, _⟩ := (hC.ty _ _ hsrc).desc
    split at h
    case h_2 => cases h
    case h_1 hkind =>
    injection h with h; subst h
    rw [hkind] at hk
    have hk : d = .string := hk
    subst hk
    have hv := (den_sc (rd_ok he hx)).1
    refine ⟨.string s, ?_, sv_ok rfl⟩
    unfold Yld execOp
    cases ds <;> simp [ho, hv, convert, run_underlying hd, run_underlying hds]

theorem unS_ok {o : Oper} {op : UnOp} {t : Nat} {x : Operand} (ho : o.op = .unOp op t x) (he : All2 (TVR Φ θ objs) env a.tmps.toList) {u v : Value} (hx : rdS env x = some u) (h : unS op u = some v) :
    ∃ cv, Yld P o a w cv ∧ TVR Φ θ objs (sv v) cv := by
  have hv := (rdS_ok he hx).1
  unfold unS at h
  split at h
  · injection h with h; subst h
    refine ⟨_, ?_, sv_ok rfl⟩
    unfold Yld execOp; simp [ho, hv, Op.unary]
  · injection h with h; subst h
    refine ⟨_, ?_, sv_ok rfl⟩
    unfold Yld execOp; simp [ho, hv, Op.unary, Op.intArith]
  · cases h

theorem eqIn_bool (d : Nat) {t : Nat} (hd : P.underlying t = some .bool) (p q : Bool) : (Op.equalIn (d + 1) t (.bool p) (.bool q)).run P w = .ok (p == q) w := by
  simp only [Op.equalIn, Sem.run_bind, run_underlying hd, Result.andThen_ok, Sem.run_pure]
theorem eq_bool {t : Nat} (hd : P.underlying t = some .bool) (p q : Bool) : (Op.equal t (.bool p) (.bool q)).run P w = .ok (p == q) w := eqIn_bool 9999 hd p q

theorem agg_ne {cs : List CV} {v : Value} (h : TVR Φ θ objs (.v (.agg cs)) v) : ∃ vs : List Value, v = .agg vs.toArray ∧ All2 (CR Φ θ objs) cs vs := h

theorem nilC_ok {c c' : CV} {u : Value} (h : nilC c = some c') (hr : CR Φ θ objs c u) : ∃ ad n cc, u = .slice ad n cc ∧ CR Φ θ objs c' (.bool ad.isNone) := by
  unfold nilC at h
  split at h
  · injection h with h; subst h
    exact ⟨none, 0, 0, hr, .sc _ rfl⟩
  · injection h with h; subst h
    obtain ⟨ad, cc, hv, _⟩ := den_sl_form hr
    exact ⟨ad, _, cc, hv, _, rfl⟩
  · injection h with h; subst h
    rename_i x xs
    have hd : Den Φ (.sl (x :: xs)) u := hr
    cases hd with
    | sl _ k b o c vs => exact ⟨some ⟨b, o, none⟩, _, c, rfl, .sc _ rfl⟩
  · rename_i id n
    obtain ⟨⟨ad, cc, hv, hn, _⟩, _⟩ := hr
    split at h
    · rename_i h0
      injection h with h; subst h
      obtain ⟨b, hb⟩ := hn h0
      subst hb
      exact ⟨_, _, cc, hv, .sc _ rfl⟩
    · injection h with h; subst h
      exact ⟨ad, _, cc, hv, _, rfl⟩
  · rename_i id n lo hi k0
    obtain ⟨_, _, ad, cc, hv, _, _, hr⟩ := hr
    split at h
    · rename_i h0
      injection h with h; subst h
      obtain ⟨b, hb, _⟩ := hr h0
      subst hb
      exact ⟨_, _, cc, hv, .sc _ rfl⟩
    · injection h with h; subst h
      exact ⟨ad, _, cc, hv, _, rfl⟩
  · cases h

theorem binN_ok (hC : CfgOk P C) {o : Oper} {op : BinOp} {t t' : Nat} {x y : Operand} {c : CV} {v : TV} (ho : o.op = .binOp op t x y t') (hx : CR Φ θ objs c (a.eval x)) (hy : a.eval y = .slice none 0 0) (h : binN C op t c = some v) : ∃ cv, Yld P o a w cv ∧ TVR Φ θ objs v cv := by
  unfold binN at h
  split at h
  case h_2 => cases h
  case h_1 ti hti =>
  obtain ⟨d, hd, _, hk⟩ := (hC.ty _ _ hti).desc
  split at h
  case h_2 => cases h
  case h_1 e hkind =>
  rw [hkind] at hk
  have hk : d = .slice e := hk
  subst hk
  simp only [Option.map_eq_some_iff] at h
  obtain ⟨c', hc', rfl⟩ := h
  obtain ⟨ad, n, cc, hu, hr⟩ := nilC_ok hc' hx
  refine ⟨.bool ad.isNone, ?_, hr⟩
  have hg : (eqGuard .eql t x y (.slice ad n cc) (.slice none 0 0)).run P w = .ok () w := guard_plain (by intro cs h; cases h) (by intro h; cases h)
  unfold Yld execOp
  simp [ho, hu, hy, hg, binOp, run_equal_slice_nil w t e ad n cc hd]

theorem binV_ok (hC : CfgOk P C) {o : Oper} {op : BinOp} {t t' : Nat} {x y : Operand} (ho : o.op = .binOp op t x y t') (he : All2 (TVR Φ θ objs) env a.tmps.toList) {u u' v : TV} (hx : rd env x = some u) (hy : rd env y = some u')
    (h : binV C op t u u' = some v) : ∃ cv, Yld P o a w cv ∧ TVR Φ θ objs v cv := by
  have hru := rd_ok he hx
  have hru' := rd_ok he hy
  unfold binV at h
  split at h
  case h_5 => cases h
  case h_1 p q =>
    have h1 := (den_sc hru).1
    have h2 := (den_sc hru').1
    unfold binB at h
    split at h
    case h_2 => cases h
    case h_1 ti hti =>
    obtain ⟨d, hd, _, hk⟩ := (hC.ty _ _ hti).desc
    split at h
    case h_3 => cases h
    case h_1 hkind =>
      injection h with h; subst h
      rw [hkind] at hk
      have hk : d = .bool := hk
      subst hk
      refine ⟨_, ?_, sv_ok rfl⟩
      unfold Yld execOp
      simp [ho, h1, h2, guard_plain, binOp, eq_bool hd]
    case h_2 hkind =>
      injection h with h; subst h
      rw [hkind] at hk
      have hk : d = .bool := hk
      subst hk
      refine ⟨_, ?_, sv_ok rfl⟩
      unfold Yld execOp
      simp [ho, h1, h2, guard_plain, binOp, eq_bool hd]
  case h_2 p q _ =>
    have h1 := (den_sc hru).1
    have h2 := (den_sc hru').1
    split at h
    case h_2 => cases h
    case h_1 z hz =>
    injection h with h; subst h
    refine ⟨z, ?_, sv_ok (binS_one hz)⟩
    have hg : (eqGuard op t x y p q).run P w = .ok () w := by
      apply guard_plain
      · intro cs hp; subst hp; simp [binS] at hz
      · intro hp; subst hp; simp [binS] at hz
    unfold Yld execOp
    simp [ho, h1, h2, hg, binS_ok hz]
  case h_3 xs ys =>
    obtain ⟨us, h1, hxs⟩ := hru
    obtain ⟨vs, h2, hys⟩ := hru'
    unfold binA at h
    split at h
    case h_2 => cases h
    case h_1 ks hks =>
    obtain ⟨hgt, heq⟩ := hC.eq t ks hks
    split at h
    case h_3 => cases h
    case h_1 _ _ b hb =>
      injection h with h; subst h
      have hr := heq Φ θ objs xs ys us vs b w hb hxs hys
      refine ⟨.bool b, ?_, sv_ok rfl⟩
      unfold Yld execOp
      simp [ho, h1, h2, eqGuard, hgt, binOp, hr]
    case h_2 _ _ b hb =>
      injection h with h; subst h
      have hr := heq Φ θ objs xs ys us vs b w hb hxs hys
      refine ⟨.bool (!b), ?_, sv_ok rfl⟩
      unfold Yld execOp
      simp [ho, h1, h2, eqGuard, hgt, binOp, hr]

  case h_4 c _ _ => exact binN_ok hC ho hru hru' h

theorem foldl_setL (off : Nat) : ∀ (news : List Value) (k : Nat) (cs : Array Value), off + k + news.length ≤ cs.size →
    ((news.zipIdx k).foldl (fun (cs : Array Value) (p : Value × Nat) => cs.setIfInBounds (off + p.2) p.1) cs).toList = cs.toList.take (off + k) ++ news ++ cs.toList.drop (off + k + news.length)
  | [], k, cs, _ => by simp
  | v :: news, k, cs, h => by
    have ih := foldl_setL off news (k + 1) (cs.setIfInBounds (off + k) v) (by simp at h ⊢; omega)
    simp only [List.zipIdx_cons, List.foldl_cons]
    rw [ih]
    have hlt : off + k < cs.toList.length := by simp at h ⊢; omega
    simp only [Array.toList_setIfInBounds, List.length_cons]
    have e1 : (cs.toList.set (off + k) v).take (off + (k + 1)) = cs.toList.take (off + k) ++ [v] := by
      rw [show off + (k + 1) = (off + k) + 1 by omega, List.take_succ_eq_append_getElem (by simpa using hlt)]
      simp [List.take_set_of_le]
    have e2 : (cs.toList.set (off + k) v).drop (off + (k + 1) + news.length) = cs.toList.drop (off + k + (news.length + 1)) := by
      rw [List.drop_set_of_lt (by omega)]
      congr 1; omega
    rw [e1, e2]
    simp

theorem foldl_set (news : List Value) (k off : Nat) (cs : Array Value) (h : off + k + news.length ≤ cs.size) :
    ((news.toArray.zipIdx k).foldl (fun cs (c, j) => cs.setIfInBounds (off + j) c) cs).toList = cs.toList.take (off + k) ++ news ++ cs.toList.drop (off + k + news.length) := by
  rw [← foldl_setL off news k cs h, ← Array.foldl_toList]
  simp

theorem fill_ok (place place' : Nat → Option (Nat × Nat)) (hp : ∀ i x, place i = some x → place' i = some x) : ∀ (parts : List (Nat × TV)) (vals : List (Nat × Value)) (cells cells' : List CV) (vs : Array Value),
    All2 (fun p q => p.1 = q.1 ∧ TVR Φ θ objs p.2 q.2) parts vals → All2 (CR Φ θ objs) cells vs.toList → fillC C place cells parts = some cells' →
    ∃ out, Instr.fill place' vs vals = some out ∧ All2 (CR Φ θ objs) cells' out.toList
  | [], vals, cells, cells', vs, hv, hc, h => by
    have := hv.nil_left; subst this
    simp [fillC] at h; subst h
    exact ⟨vs, rfl, hc⟩
  | (i, v) :: rest, vals, cells, cells', vs, hv, hc, h => by
    obtain ⟨q, vals', rfl, ⟨hq1, hq2⟩, ht⟩ := hv.cons_left
    obtain ⟨i', u⟩ := q
    simp at hq1; subst hq1
    unfold fillC at h
    split at h
    case h_2 => cases h
    case h_1 off size cs hpl hcs =>
    split at h
    case isFalse => cases h
    case isTrue hle =>
    have hcu := cellsOf_ok hcs hq2
    have hsz : u.cells.size = size := by have := hcu.1; simp at this; omega
    have hvs : vs.size = cells.length := by have := hc.1; simp at this; omega
    have hset : All2 (CR Φ θ objs) (setRange cells off cs) (u.cells.zipIdx.foldl (fun cs (c, j) => cs.setIfInBounds (off + j) c) vs).toList := by
      have h1 := foldl_set u.cells.toList 0 off vs (by simp; omega)
      simp only [Array.toArray_toList] at h1
      rw [show u.cells.zipIdx = u.cells.zipIdx 0 from rfl, h1]
      unfold setRange
      simp only [Nat.add_zero]
      have hl : cs.length = u.cells.toList.length := hcu.1
      rw [hl]
      exact ((hc.take off).append hcu).append (hc.drop _)
    obtain ⟨out, ho, hr⟩ := fill_ok place place' hp rest vals' _ cells' _ ht hset h
    refine ⟨out, ?_, hr⟩
    have hcond : (u.cells.size ≠ size || decide (off + u.cells.size > vs.size)) = false := by simp [hsz]; omega
    unfold Instr.fill
    simp only [hp _ _ hpl]
    rw [if_neg (by simp [hsz]; omega)]
    exact ho

theorem mapM_all {α β : Type} (g : α → Option β) : ∀ (l : List α), (∀ x ∈ l, ∃ y, g x = some y) → ∃ ys : List β, l.mapM g = some ys ∧ ∀ i : Nat, ys[i]? = (l[i]?).bind g
  | [], _ => ⟨[], by simp, fun i => by simp⟩
  | x :: l, h => by
    obtain ⟨y, hy⟩ := h x (by simp)
    obtain ⟨ys, hys, hi⟩ := mapM_all g l (fun z hz => h z (by simp [hz]))
    refine ⟨y :: ys, by simp [List.mapM_cons, hy, hys], fun i => ?_⟩
    cases i with
    | zero => simp [hy]
    | succ i => simpa using hi i

theorem ddv_ok {Φ : Fz} {ds : List DV} {vs : List Value} (h : All2 (Den Φ) ds vs) : All2 (CR Φ θ objs) (ddv ds) vs := All2.map_left h

theorem rdPs_ok (he : All2 (TVR Φ θ objs) env a.tmps.toList) : ∀ (ps : List (Nat × Operand)) (parts : List (Nat × TV)), rdPs env ps = some parts →
    All2 (fun (p : Nat × TV) (q : Nat × Value) => p.1 = q.1 ∧ TVR Φ θ objs p.2 q.2) parts (ps.map fun (i, x) => (i, a.eval x))
  | [], parts, h => by simp [rdPs] at h; subst h; exact All2.nil
  | p :: ps, parts, h => by
    unfold rdPs at h
    split at h
    case h_2 => cases h
    case h_1 v vs hv hvs =>
    injection h with h; subst h
    exact All2.cons ⟨rfl, rd_ok he hv⟩ (rdPs_ok he ps vs hvs)

theorem evBuild_ok (hC : CfgOk P C) {o : Oper} {t : Nat} {ps : Array (Nat × Operand)} (ho : o.op = .build t ps) (he : All2 (TVR Φ θ objs) env a.tmps.toList) {parts : List (Nat × TV)} (hps : rdPs env ps.toList = some parts) {v : TV}
    (h : buildV C t parts = some v) : ∃ cv, Yld P o a w cv ∧ TVR Φ θ objs v cv := by
  have hparts := rdPs_ok (Φ := Φ) (θ := θ) (objs := objs) he _ _ hps
  unfold buildV at h
  split at h
  case h_2 => cases h
  case h_1 ti hti =>
  obtain ⟨d, hd, _, hk⟩ := (hC.ty _ _ hti).desc
  obtain ⟨i, z, hi, hsz, _, hz, hz0, _, hz1⟩ := (hC.ty _ _ hti).info
  have hzc : All2 (CR Φ θ objs) (zcs ti.zero) z.cells.toList := hz1 Φ θ objs
  have fin : ∀ (pl' : Nat → Option (Nat × Nat)) (out : Array Value) (cells' : List CV), P.built t (ps.toList.map fun (i, x) => (i, a.eval x)) = some out → All2 (CR Φ θ objs) cells' out.toList → v = .v (.agg cells') → ∃ cv, Yld P o a w cv ∧ TVR Φ θ objs v cv := by
    intro pl' out cells' hb hc hv
    subst hv
    refine ⟨.agg out, ?_, out.toList, by simp, hc⟩
    have := run_build (P := P) w t (ps.map fun (i, x) => (i, a.eval x)) out (by simpa using hb)
    unfold Yld execOp
    simp only [ho, Sem.run_bind, this, Result.andThen_ok]
    rfl
  split at h
  case h_3 => cases h
  case h_1 fs hkind =>
    rw [hkind] at hk
    obtain ⟨fields, rfl, hlen, hfs⟩ := hk
    obtain ⟨places, hpl, hget⟩ := mapM_all (fun f : Field => (P.info? f.type).map fun i => (f.offset, i.size)) fields.toList (fun f hf => by
      obtain ⟨j, hj, hfj⟩ := List.getElem_of_mem hf
      have hjl : j < fs.length := by rw [hlen]; simpa using hj
      obtain ⟨fld, h1, h2, ⟨i', h3, h4⟩, _⟩ := hfs j fs[j].1 fs[j].2.1 fs[j].2.2 (List.getElem?_eq_getElem hjl)
      have : fields[j]? = some f := by rw [← Array.getElem?_toList, List.getElem?_eq_getElem hj, hfj]
      rw [this] at h1; injection h1 with h1; subst h1
      exact ⟨_, by simp [h3]; rfl⟩)
    cases hf : fillC C (fun i => (fs[i]?).map fun f => (f.1, f.2.1)) (zcs ti.zero) parts with
    | none => simp [-zcs, -fillC, hf] at h
    | some cells' =>
      simp [-zcs, -fillC, hf] at h
      obtain ⟨out, hout, hc⟩ := fill_ok (C := C) (Φ := Φ) (θ := θ) (objs := objs) _ (fun x => places.toArray[x]?) (fun i x hx => by
        cases hfi : fs[i]? with
        | none => simp [hfi] at hx
        | some f =>
          simp [hfi] at hx
          obtain ⟨fld, h1, h2, ⟨i', h3, h4⟩, _⟩ := hfs i f.1 f.2.1 f.2.2 hfi
          simp only [List.getElem?_toArray]
          rw [hget i]
          simp only [Array.getElem?_toList, h1, Option.bind_some, h3, Option.map_some, h2, h4, hx]) parts _ (zcs ti.zero) cells' z.cells hparts hzc hf
      exact fin (fun _ => none) out cells' (by unfold Program.built; simp only [hi, hd, hz, hpl]; exact hout) hc h.symm
  case h_2 n e hkind =>
    rw [hkind] at hk
    have hk : d = .array n e := hk
    subst hk
    split at h
    case h_2 => cases h
    case h_1 te hte =>
    obtain ⟨ie, _, hie, hse, _⟩ := (hC.ty _ _ hte).info
    cases hf : fillC C (fun i => some (i * te.size, te.size)) (zcs ti.zero) parts with
    | none => simp [-zcs, -fillC, hf] at h
    | some cells' =>
      simp [-zcs, -fillC, hf] at h
      obtain ⟨out, hout, hc⟩ := fill_ok (C := C) (Φ := Φ) (θ := θ) (objs := objs) _ (fun x => some (x * ie.size, ie.size)) (fun i x hx => by rw [hse]; exact hx) parts _ (zcs ti.zero) cells' z.cells hparts hzc hf
      exact fin (fun _ => none) out cells' (by unfold Program.built; simp only [hi, hd, hz, hie]; exact hout) hc h.symm

theorem evPick_ok {o : Oper} {c x y : Operand} (ho : o.op = .pick c x y) (he : All2 (TVR Φ θ objs) env a.tmps.toList) {v : TV} (h : evPick (rdB env c) (rd env x) (rd env y) = some v) : ∃ cv, Yld P o a w cv ∧ TVR Φ θ objs v cv := by
  unfold evPick at h
  split at h
  · rename_i hc
    have hb := rdB_ok he hc
    exact ⟨_, by unfold Yld execOp; simp [ho, hb, asBool], rd_ok he h⟩
  · rename_i hc
    have hb := rdB_ok he hc
    exact ⟨_, by unfold Yld execOp; simp [ho, hb, asBool], rd_ok he h⟩
  · cases h

theorem rdPtrs_ok (he : All2 (TVR Φ θ objs) env a.tmps.toList) : ∀ (xs : List Operand) (l : List (Nat × Nat)), rdPtrs env xs = some l → All2 (PtR θ objs) l (xs.map a.eval)
  | [], l, h => by simp [rdPtrs] at h; subst h; exact All2.nil
  | x :: xs, l, h => by
    unfold rdPtrs at h
    split at h
    · rename_i id off l' h1 h2
      injection h with h; subst h
      exact All2.cons (rd1_ok he h1) (rdPtrs_ok he xs l' h2)
    · cases h

theorem evMakeFunc_ok {o : Oper} {f : Fn} {fs cs : Array Operand} (ho : o.op = .makeFunc f fs cs) (he : All2 (TVR Φ θ objs) env a.tmps.toList) {v : TV} (h : evMakeFunc env f fs.toList cs.toList = some v) : ∃ cv, Yld P o a w cv ∧ TVR Φ θ objs v cv := by
  unfold evMakeFunc at h
  split at h
  · rename_i g x y h1 h2
    injection h with h; subst h
    refine ⟨_, by unfold Yld execOp; simp only [ho, Instr.makeFunc]; rfl, ⟨fs.toList.map a.eval, cs.toList.map a.eval, ?_, rdPtrs_ok he _ _ h1, rdPtrs_ok he _ _ h2⟩⟩
    rw [← Array.toList_map, ← Array.toList_map]
  · cases h

theorem blind_ok (hC : CfgOk P C) {o : Oper} (he : All2 (TVR Φ θ objs) env a.tmps.toList) {v : TV} (h : evBlind C o env = some v) : ∃ cv, Yld P o a w cv ∧ TVR Φ θ objs v cv := by
  unfold evBlind at h
  cases hop : o.op <;> simp only [hop] at h
  case move x => exact ⟨_, by unfold Yld execOp; simp [hop], rd_ok he h⟩
  case assign x => exact ⟨_, by unfold Yld execOp; simp [hop], rd_ok he h⟩
  case pick c x y => exact evPick_ok hop he h
  case build t ps =>
    split at h
    case h_2 => cases h
    case h_1 parts hps => exact evBuild_ok hC hop he hps h
  case binOp op t x y t' =>
    split at h
    case h_2 => cases h
    case h_1 u u' hx hy => exact binV_ok hC hop he hx hy h
  case unOp op t x =>
    split at h
    case h_2 => cases h
    case h_1 u hx =>
    split at h
    case h_2 => cases h
    case h_1 z hz => injection h with h; subst h; exact unS_ok hop he hx hz
  case convert src dst x => exact evConv_ok hC hop he h
  case nilCheck x => exact evNilCheck_ok hop he h
  case fieldAddr s x f => exact evFieldAddr_ok hC hop he h
  case field s x f => exact evField_ok hC hop he h
  case indexAddr t x i => exact evIndexAddr_ok hC hop he h
  case index t x i => exact evIndex_ok hC hop he h
  case extract x i => exact evExtract_ok hop he h
  case slice t x lo hi mx =>
    split at h
    case isTrue => cases h
    case isFalse hmh => exact evSlice_ok hC hop (by rw [Bool.eq_false_iff]; exact hmh) he h
  case call c =>
    cases hb : c.callee <;> simp only [hb] at h
    case builtin b =>
      unfold evBuiltin at h
      split at h
      case h_1 x t ha ht => exact evLen_ok hC hop hb ha ht he h
      case h_2 x y _ ha => exact evMM_ok (mx := true) hop hb ha he h
      case h_3 x y _ ha => exact evMM_ok (mx := false) hop hb ha he h
      case h_4 x _ ha => exact evUSD_ok hop hb ha he h
      case h_5 => cases h
    all_goals cases h
  case makeFunc f fs cs => exact evMakeFunc_ok hop he h
  all_goals cases h

end
end Go.Vm

/- Operations that make objects, read them and write them. -/
set_option linter.unusedVariables false
set_option linter.unusedSimpArgs false
namespace Go.Vm
open Go Go.RowKit

def refId : CV → Option Nat
  | .own id _ => some id
  | .vw id _ _ _ _ => some id
  | _ => none


def OpR (P : Program) (o : Oper) (a : Act) (w : World) (R : Value → World → Prop) : Prop :=
  ∀ (K : Act → World → Prop) (Q : Exit → Act → World → Prop), (∀ cv w', R cv w' → K (a.put o.dst cv) w') → o.wp P a w K Q

theorem OpR.value {P : Program} {o : Oper} {a : Act} {w w' : World} {R : Value → World → Prop} {cv : Value} (h : (execOp a.eval o).run P w = .ok (.value cv) w') (hr : R cv w') : OpR P o a w R := by
  intro K Q hK
  unfold Oper.wp; rw [h]; exact hK _ _ hr

theorem OpR.skip {P : Program} {o : Oper} {a : Act} {w w' : World} {R : Value → World → Prop} (h : (execOp a.eval o).run P w = .ok .skip w') (hr : R undef w') : OpR P o a w R := by
  intro K Q hK
  unfold Oper.wp; rw [h]; exact hK _ _ hr

structure Goes (Φ : Fz) (θ : Th) (base : Nat) (w : World) (objs : Objs) (Φ' : Fz) (θ' : Th) (w' : World) (objs' : Objs) : Prop where
  le : Le Φ Φ'
  go : Go2 θ θ' objs objs'
  new : New Φ Φ' base
  below : Below base w w'

theorem Goes.refl (Φ : Fz) (θ : Th) (base : Nat) (w : World) (objs : Objs) : Goes Φ θ base w objs Φ θ w objs := ⟨Le.refl _, Go2.refl _ _, New.refl _ _, Below.refl _ _⟩
theorem Goes.trans {Φ Φ' Φ'' : Fz} {θ θ' θ'' : Th} {base : Nat} {w w' w'' : World} {o o' o'' : Objs} (h : Goes Φ θ base w o Φ' θ' w' o') (h' : Goes Φ' θ' base w' o' Φ'' θ'' w'' o'') : Goes Φ θ base w o Φ'' θ'' w'' o'' :=
  ⟨h.le.trans h'.le, h.go.trans h'.go, fun b o hb => (h'.new b o hb).trans (h.new b o hb), h.below.trans h'.below⟩

def Post (Φ : Fz) (θ : Th) (base : Nat) (w : World) (env : Env) (objs : Objs) (tmps : Array Value) (v : TV) (objs' : Objs) (cv : Value) (w' : World) : Prop :=
  ∃ Φ' θ', Goes Φ θ base w objs Φ' θ' w' objs' ∧ StR Φ' θ' base w' env objs' tmps ∧ TVR Φ' θ' objs' v cv

section
variable {P : Program} {Φ : Fz} {θ : Th} {base : Nat} {objs objs' : Objs} {env : Env} {a : Act} {w : World} {C : Cfg} {v : TV}

theorem blind_post (hC : CfgOk P C) {o : Oper} (hs : StR Φ θ base w env objs a.tmps) (h : evBlind C o env = some v) : OpR P o a w (Post Φ θ base w env objs a.tmps v objs) := by
  obtain ⟨cv, hy, hr⟩ := blind_ok (w := w) hC hs.env h
  exact .value hy ⟨Φ, θ, Goes.refl _ _ _ _ _, hs, hr⟩

theorem fresh_blk (hs : StR Φ θ base w env objs a.tmps) {i b : Nat} (h : mblk θ objs i = some b) : b ≠ w.heap.size := by
  have := (hs.mblk_ge h).2; omega

theorem sat_none (hs : Sat Φ w) (o : Nat) : Φ w.heap.size o = none := by
  cases h : Φ w.heap.size o with
  | none => rfl
  | some v => have := hs.lt h; omega

theorem alloc_state (hs : StR Φ θ base w env objs a.tmps) (cells : Array Value) (t : Nat) : StR Φ θ base (w.alloc (.cells cells t)) env objs a.tmps :=
  hs.below ((Below.refl _ _).alloc (Nat.le_refl _) _) (Le.refl _) (New.refl _ _) (hs.sat.below ((Below.refl _ _).alloc (Nat.le_refl _) _))

theorem Lr_push {ob : Ob} {s : Option Nat} (h : len1 ob = s) : Lr (objs ++ [ob]) objs.length = some s := by rw [← h]; exact Lr_of (by simp)

theorem box_post (hs : StR Φ θ base w env objs a.tmps) (cells : Array Value) (t : Nat) (cs : List CV) (hc : All2 (CR Φ θ objs) cs cells.toList) :
    Post Φ θ base w env objs a.tmps (.v (.one (.ptr objs.length 0 0))) (objs ++ [.box t cs]) (.pointer (some ⟨w.heap.size, 0, none⟩)) (w.alloc (.cells cells t)) := by
  have h1 := alloc_state hs cells t
  have hg := go_push θ objs (.box t cs) (.pointer (some ⟨w.heap.size, 0, none⟩))
  have h2 := h1.push (.box t cs) (.pointer (some ⟨w.heap.size, 0, none⟩))
    ⟨w.heap.size, cells, thAt_same _ _ _, hs.base, Go.heap_alloc_new w _, hc.imp fun _ _ => CR.go (Le.refl _) hg, sat_none hs.sat⟩
    (fun i b hb hp => fresh_blk hs hb (by simpa [pblk] using hp.symm))
  refine ⟨Φ, _, ⟨Le.refl _, hg, New.refl _ _, (Below.refl _ _).alloc hs.base _⟩, h2, ⟨w.heap.size, rfl, some 0, Lr_push rfl, fun m hm => ⟨by omega, fun _ => ?_⟩⟩⟩
  rw [thAt_same]; rfl

theorem own_push (hs : StR Φ θ base w env objs a.tmps) (e k : Nat) (hk : 0 < k) :
    Go2 θ (thAt θ objs.length (.slice none 0 0)) objs (objs ++ [.arr e k []]) ∧ StR Φ (thAt θ objs.length (.slice none 0 0)) base w env (objs ++ [.arr e k []]) a.tmps ∧ CR Φ (thAt θ objs.length (.slice none 0 0)) (objs ++ [.arr e k []]) (.own objs.length 0) (.slice none 0 0) := by
  have hg := go_push θ objs (.arr e k []) (.slice none 0 0)
  refine ⟨hg, hs.push _ _ ⟨[], ?_, by simpa using All2.nil, by simp, hk, fun b hb => ?_⟩ (fun i b _ h => by cases h), ⟨⟨none, 0, rfl, fun h => absurd h (by omega), by omega⟩, some 0, Lr_push rfl, fun m hm => ⟨by omega, fun _ => (thAt_same _ _ _).symm⟩⟩⟩
  · rw [thAt_same]; exact World.ownsRow_nil w base e k
  · rw [thAt_same] at hb; cases hb

theorem set_self {α : Type} {l : List α} {i : Nat} {x : α} (h : l[i]? = some x) : l.set i x = l := by
  apply List.ext_getElem?
  intro j
  rw [List.getElem?_set]
  split
  · rename_i e; subst e
    have hl := (List.getElem?_eq_some_iff.1 h).1
    rw [if_pos hl, h]
  · rfl

theorem ownCs_ok : ∀ (l : List (Nat × Nat × Nat)) {θ : Th} {objs : Objs} {cs : List CV} {us : List Value}, StR Φ θ base w env objs a.tmps → All2 (CR Φ θ objs) cs us →
    ∃ θ', Go2 θ θ' objs (ownCs l cs objs).2 ∧ StR Φ θ' base w env (ownCs l cs objs).2 a.tmps ∧ All2 (CR Φ θ' (ownCs l cs objs).2) (ownCs l cs objs).1 us ∧ (ownCs l cs objs).1.length = cs.length
  | [], θ, objs, cs, us, hs, hc => ⟨θ, Go2.refl _ _, hs, hc, rfl⟩
  | (i, e, k) :: l, θ, objs, cs, us, hs, hc => by
    unfold ownCs
    split
    case h_1 hi hk =>
      have hk' : 0 < k := of_decide_eq_true hk
      obtain ⟨hg, hs1, hr⟩ := own_push hs e k hk'
      have hc1 : All2 (CR Φ (thAt θ objs.length (.slice none 0 0)) (objs ++ [.arr e k []])) (cs.set i (.own objs.length 0)) us := by
        have hc0 : All2 (CR Φ (thAt θ objs.length (.slice none 0 0)) (objs ++ [.arr e k []])) cs us := hc.imp fun _ _ => CR.go (Le.refl _) hg
        obtain ⟨u, hu, hcu⟩ := hc.get hi
        have hu0 : u = .slice none 0 0 := hcu
        have := hc0.set i (x := .own objs.length 0) (y := u) (by rw [hu0]; exact hr)
        rwa [set_self hu] at this
      obtain ⟨θ', h1, h2, h3, h4⟩ := ownCs_ok l hs1 hc1
      exact ⟨θ', hg.trans h1, h2, h3, by rw [h4]; simp⟩
    case h_2 hi hk =>
      have hc1 : All2 (CR Φ θ objs) (cs.set i (.d (.sl []))) us := by
        obtain ⟨u, hu, hcu⟩ := hc.get hi
        have hu0 : u = .slice none 0 0 := hcu
        have := hc.set i (x := .d (.sl [])) (y := u) (by rw [hu0]; exact Den.nil none 0)
        rwa [set_self hu] at this
      obtain ⟨θ', h1, h2, h3, h4⟩ := ownCs_ok l hs hc1
      exact ⟨θ', h1, h2, h3, by rw [h4]; simp⟩
    case h_3 => exact ownCs_ok l hs hc

theorem ownV_ok (l : List (Nat × Nat × Nat)) {u : Value} (hs : StR Φ θ base w env objs a.tmps) (hv : TVR Φ θ objs v u) :
    ∃ θ', Go2 θ θ' objs (ownV l v objs).2 ∧ StR Φ θ' base w env (ownV l v objs).2 a.tmps ∧ TVR Φ θ' (ownV l v objs).2 (ownV l v objs).1 u := by
  unfold ownV
  split
  case h_1 e k _ =>
    split
    · rename_i hk
      obtain ⟨hg, hs1, hr⟩ := own_push hs e k hk
      have hu : u = .slice none 0 0 := hv
      subst hu
      exact ⟨_, hg, hs1, hr⟩
    · have hu : u = .slice none 0 0 := hv
      subst hu
      exact ⟨θ, Go2.refl _ _, hs, .nil _ _⟩
  case h_2 cs =>
    obtain ⟨us, hu, hc⟩ := hv
    obtain ⟨θ', h1, h2, h3, _⟩ := ownCs_ok l hs hc
    exact ⟨θ', h1, h2, us, hu, h3⟩
  case h_3 => exact ⟨θ, Go2.refl _ _, hs, hv⟩

theorem own_post {env : Env} {tmps : Array Value} (l : List (Nat × Nat × Nat)) {cv : Value} {w' : World} (h : Post Φ θ base w env objs tmps v objs' cv w') : Post Φ θ base w env objs tmps (ownV l v objs').1 (ownV l v objs').2 cv w' := by
  obtain ⟨Φ1, θ1, hg, hs, hv⟩ := h
  obtain ⟨θ2, h1, h2, h3⟩ := ownV_ok (a := { tmps := tmps, defers := [] }) l hs hv
  exact ⟨Φ1, θ2, ⟨hg.le, hg.go.trans h1, hg.new, hg.below⟩, h2, h3⟩

theorem evAlloc_ok (hC : CfgOk P C) {o : Oper} {t : Nat} {l : List (Nat × Nat × Nat)} (ho : o.op = .alloc t) (hs : StR Φ θ base w env objs a.tmps) (h : evAlloc l t (C.ti t) objs = some (v, objs')) :
    OpR P o a w (Post Φ θ base w env objs a.tmps v objs') := by
  unfold evAlloc at h
  split at h
  case h_2 => cases h
  case h_1 ti hti =>
  simp at h
  obtain ⟨rfl, rfl⟩ := h
  obtain ⟨i, z, hi, hsz, _, hz, hz0, _, hz1⟩ := (hC.ty _ _ hti).info
  obtain ⟨θ1, h1, h2, h3, _⟩ := ownCs_ok l hs (hz1 Φ θ objs)
  obtain ⟨Φ2, θ2, hg2, hs2, hr2⟩ := box_post h2 z.cells t _ h3
  refine .value (cv := .pointer (some ⟨w.heap.size, 0, none⟩)) (w' := w.alloc (.cells z.cells t)) ?_ ⟨Φ2, θ2, ⟨hg2.le, h1.trans hg2.go, hg2.new, hg2.below⟩, hs2, hr2⟩
  unfold execOp
  simp [ho, Instr.alloc, zeroValue, typeInfo, hi, hz, newVar, newRow]

theorem evBox_ok (hC : CfgOk P C) {o : Oper} {t : Nat} {x : Operand} (ho : o.op = .box t x) (hs : StR Φ θ base w env objs a.tmps) (h : evBox t (C.ti t) (rd env x) objs = some (v, objs')) :
    OpR P o a w (Post Φ θ base w env objs a.tmps v objs') := by
  unfold evBox at h
  split at h
  case h_2 => cases h
  case h_1 ti u hti hx =>
  split at h
  case h_2 => cases h
  case h_1 cs hcs =>
  split at h
  case isFalse => cases h
  case isTrue hlen =>
  simp at h
  obtain ⟨rfl, rfl⟩ := h
  have hc := cellsOf_ok hcs (rd_ok hs.env hx)
  refine .value (cv := .pointer (some ⟨w.heap.size, 0, none⟩)) (w' := w.alloc (.cells (a.eval x).cells t)) ?_ (box_post hs _ t _ hc)
  unfold execOp
  simp [ho, Instr.box, newVar, newRow]

def At (w : World) (b o : Nat) (us : List Value) : Prop := ∀ (j : Nat) u, us[j]? = some u → w.cell? ⟨b, o + j, none⟩ = some u

theorem At.cut {w : World} {b o : Nat} {us : List Value} (h : At w b o us) (n m : Nat) : At w b (o + n) ((us.drop n).take m) := by
  intro j u hu
  rw [List.getElem?_take] at hu
  split at hu
  · rw [Nat.add_assoc]; exact h (n + j) u (by simpa using hu)
  · cases hu

theorem addr_add (b o j : Nat) : (⟨b, o, none⟩ : Addr).add j = ⟨b, o + j, none⟩ := by unfold Addr.add; split <;> simp_all

theorem row_at {e k n : Nat} {u : Value} {vs : List Value} (h : w.ownsRow base e k u n vs) {b : Nat} (hb : pblk u = some b) : At w b 0 vs := by
  intro j x hx
  have := h.cells (g := b) (by rw [← own_pblk h]; exact hb) j x hx
  rwa [addr_add] at this

theorem flat_drop {α : Type} {k : Nat} : ∀ {xs : List (List α)}, (∀ x ∈ xs, x.length = k) → ∀ {j : Nat} {x : List α}, xs[j]? = some x → (xs.flatten.drop (j * k)).take k = x
  | [], _, j, x, h => by simp at h
  | z :: xs, hk, 0, x, h => by
    simp at h; subst h
    have := hk z (by simp)
    simp [← this]
  | z :: xs, hk, j + 1, x, h => by
    have ih := flat_drop (xs := xs) (fun x hx => hk x (by simp [hx])) (j := j) (x := x) (by simpa using h)
    have hz := hk z (by simp)
    rw [List.flatten_cons, show (j + 1) * k = z.length + j * k by rw [hz, Nat.succ_mul]; omega, List.drop_append, List.drop_eq_nil_of_le (by omega)]
    simpa using ih

theorem den_list_row {xs : List (List DV)} {u : Value} (h : Den Φ (.sl xs) u) {j : Nat} {x : List DV} (hx : xs[j]? = some x) (hsat : Sat Φ w) : ∃ k b o c us, u = .slice (some ⟨b, o, none⟩) xs.length c ∧ x.length = k ∧ All2 (Den Φ) x us ∧ At w b (o + j * k) us := by
  obtain ⟨k, b, o, c, hv, hxk, hk0, hall, hcell⟩ := den_sl_at h hx
  refine ⟨k, b, o, c, (List.range x.length).map (fun i => (Φ b (o + j * k + i)).getD default), hv, hxk, ⟨by simp, fun i y v hy hv' => ?_⟩, fun i v hv' => ?_⟩
  · have hi := (List.getElem?_eq_some_iff.1 hy).1
    obtain ⟨z, hz, hd⟩ := hcell i y hy
    simp [hi] at hv'
    rw [hz] at hv'; simp at hv'; subst hv'; exact hd
  · have hi : i < x.length := by have := (List.getElem?_eq_some_iff.1 hv').1; simpa using this
    obtain ⟨z, hz, hd⟩ := hcell i _ (List.getElem?_eq_getElem hi)
    simp [hi] at hv'
    rw [hz] at hv'; simp at hv'; subst hv'
    exact hsat _ _ _ hz

theorem All2.cut {α β : Type} {R : α → β → Prop} {l : List α} {m : List β} (h : All2 R l m) (n k : Nat) : All2 R ((l.drop n).take k) ((m.drop n).take k) := (h.drop n).take k

theorem loadC_ok (hs : StR Φ θ base w env objs a.tmps) {c : CV} {u : Value} (hc : CR Φ θ objs c u) {size : Nat} {cs : List CV} (h : loadC objs size c = some cs) :
    ∃ b o us, u = .pointer (some ⟨b, o, none⟩) ∧ All2 (CR Φ θ objs) cs us ∧ us.length = size ∧ At w b o us := by
  unfold loadC at h
  split at h
  case h_3 => cases h
  case h_1 id n off =>
    split at h
    case h_4 => cases h
    case h_1 cells hob =>
      split at h
      case isFalse => cases h
      case isTrue hle =>
      injection h with h; subst h
      obtain ⟨b, arr, hθ, _, hh, hcs, _⟩ := hs.ob id _ hob
      have hn : n = 0 := by
        obtain ⟨_, _, s, hs', hr⟩ := hc
        rw [Lr_of hob] at hs'; injection hs' with hs'
        have := (hr 0 hs'.symm).1; omega
      obtain ⟨b', hb', hv⟩ := ptr_val hc (m := 0) (Lr_of hob) hn
      rw [hθ] at hb'
      have : b = b' := by simpa [pblk] using hb'
      subst this
      have hl := hcs.1
      refine ⟨b, off, (arr.toList.drop off).take size, hv, hcs.cut off size, by simp at hl ⊢; omega, ?_⟩
      have hat : At w b 0 arr.toList := fun j x hx => by
        rw [Nat.zero_add, cell_of_row w b j arr _ (0, 0) hh]; simpa using hx
      simpa using hat.cut off size
    case h_2 e k xs hob =>
      split at h
      case isFalse => cases h
      case isTrue hnk =>
      split at h
      case h_2 => cases h
      case h_1 x hx =>
      split at h
      case isFalse => cases h
      case isTrue hle =>
      injection h with h; subst h
      obtain ⟨vs, hown, hden, hall, hk0, hno⟩ := hs.ob id _ hob
      obtain ⟨b, hb, hv⟩ := ptr_val hc (Lr_of hob) hnk.1.symm
      have hat := (row_at hown hb).cut (off / k * k) k
      have hrow := hden.cut (off / k * k) k
      rw [flat_drop hall hx] at hrow
      have hat2 := hat.cut (off % k) size
      have hlen : x.length = k := hall x (List.mem_of_getElem? hx)
      refine ⟨b, off, ((((vs.drop (off / k * k)).take k).drop (off % k)).take size), hv, ddv_ok (hrow.cut (off % k) size), ?_, ?_⟩
      · have := (hrow.cut (off % k) size).1
        rw [← this]; simp; omega
      · have e : 0 + off / k * k + off % k = off := by rw [Nat.zero_add, Nat.mul_comm]; exact Nat.div_add_mod off k
        rw [e] at hat2; exact hat2
    case h_3 e k xs hob =>
      split at h
      case isFalse => cases h
      case isTrue hnk =>
      split at h
      case h_2 => cases h
      case h_1 x hx =>
      split at h
      case isFalse => cases h
      case isTrue hle =>
      injection h with h; subst h
      obtain ⟨hden, hall, hk0, hoff⟩ := hs.ob id _ hob
      obtain ⟨b, hb, hv⟩ := ptr_val hc (Lr_of hob) hnk.1.symm
      obtain ⟨k', b', o, c', us, hθ, hxk, hrow, hat⟩ := den_list_row hden hx hs.sat
      have ho := hoff _ _ _ _ hθ
      subst ho
      rw [hθ] at hb
      have : b' = b := by simpa [pblk] using hb
      subst this
      have hlen : x.length = k := hall x (List.mem_of_getElem? hx)
      have hkk : k' = k := by omega
      subst hkk
      have hat2 := hat.cut (off % k') size
      refine ⟨b', off, (us.drop (off % k')).take size, hv, ddv_ok (hrow.cut (off % k') size), ?_, ?_⟩
      · have := (hrow.cut (off % k') size).1
        rw [← this]; simp; omega
      · have e : 0 + off / k' * k' + off % k' = off := by rw [Nat.zero_add, Nat.mul_comm]; exact Nat.div_add_mod off k'
        rw [e] at hat2; exact hat2
  case h_2 ds =>
    split at h
    case isFalse => cases h
    case isTrue hle =>
    injection h with h; subst h
    obtain ⟨b, o, hv, hcell⟩ := hc
    refine ⟨b, o, (List.range size).map (fun i => (Φ b (o + i)).getD default), hv, ddv_ok ⟨by simp; omega, fun i y z hy hz => ?_⟩, by simp, fun i z hz => ?_⟩
    · rw [List.getElem?_take] at hy
      split at hy
      · rename_i hi
        obtain ⟨q, hq, hd⟩ := hcell i y hy
        simp [hi, hq] at hz; subst hz; exact hd
      · cases hy
    · have hi : i < size := by have := (List.getElem?_eq_some_iff.1 hz).1; simpa using this
      obtain ⟨q, hq, hd⟩ := hcell i _ (List.getElem?_eq_getElem (by omega))
      simp [hi, hq] at hz; subst hz
      exact hs.sat _ _ _ hq

theorem run_loadVar {t : Nat} {ti : TI} (hT : TyOk P t ti) {b o : Nat} {us : List Value} (hat : At w b o us) (hl : us.length = ti.size) :
    (ti.agg = true → (loadVar t ⟨b, o, none⟩).run P w = .ok (.agg us.toArray) w) ∧ (ti.agg = false → ∀ u, us = [u] → (loadVar t ⟨b, o, none⟩).run P w = .ok u w) := by
  obtain ⟨d, hd, hag, _⟩ := hT.desc
  have hsz := hT.size w
  have hc := run_loadCells_list (P := P) w ⟨b, o, none⟩ us (fun j u hu => by rw [addr_add]; exact hat j u hu)
  refine ⟨fun ha => ?_, fun ha u hu => ?_⟩
  · unfold loadVar
    simp only [Sem.run_bind, run_isAgg hd, Result.andThen_ok, hag, ha, if_true, hsz]
    rw [← hl, hc]; rfl
  · subst hu
    have := hat 0 u rfl
    unfold loadVar
    simp only [Sem.run_bind, run_isAgg hd, Result.andThen_ok, hag, ha, Bool.false_eq_true, if_false]
    rw [run_load]
    simp at this
    simp [this]

theorem evLoad_ok (hC : CfgOk P C) {o : Oper} {t : Nat} {p : Operand} (ho : o.op = .load t p) (hs : StR Φ θ base w env objs a.tmps) (h : evLoad (C.ti t) (rd1 env p) objs = some (v, objs')) :
    OpR P o a w (Post Φ θ base w env objs a.tmps v objs') := by
  unfold evLoad at h
  split at h
  case h_2 => cases h
  case h_1 ti c hti hp =>
  split at h
  case h_2 => cases h
  case h_1 cs hcs =>
  split at h
  case h_2 => cases h
  case h_1 u hu =>
  simp at h
  obtain ⟨rfl, rfl⟩ := h
  obtain ⟨b, off, us, hv, hall, hlen, hat⟩ := loadC_ok hs (rd1_ok hs.env hp) hcs
  obtain ⟨h1, h2⟩ := run_loadVar (hC.ty _ _ hti) hat hlen
  unfold mk1 at hu
  split at hu
  · rename_i ha
    injection hu with hu; subst hu
    refine .value (cv := .agg us.toArray) (w' := w) ?_ ⟨Φ, θ, Goes.refl _ _ _ _ _, hs, us, rfl, hall⟩
    unfold execOp
    simp [ho, hv, Instr.loadAt, Instr.sureAddr, h1 ha]
  · rename_i ha
    split at hu
    · rename_i c'
      injection hu with hu; subst hu
      obtain ⟨z, m, rfl, hz, hm⟩ := hall.cons_left
      have := hm.nil_left; subst this
      refine .value (cv := z) (w' := w) ?_ ⟨Φ, θ, Goes.refl _ _ _ _ _, hs, hz⟩
      unfold execOp
      simp [ho, hv, Instr.loadAt, Instr.sureAddr, h2 (by simpa using ha) z rfl]
    · cases hu

theorem go_set {id : Nat} {old ob : Ob} {v : Value} (ho : objs[id]? = some old) (hl : ∀ m', len1 ob = some m' → ∃ m, len1 old = some m ∧ m ≤ m' ∧ (m = m' → v = θ id)) : Go2 θ (thAt θ id v) objs (objs.set id ob) := by
  intro i s hs
  obtain ⟨o, ho', hl'⟩ := Lr_some hs
  by_cases hid : i = id
  · subst hid
    rw [ho] at ho'; injection ho' with ho'; subst ho'
    refine ⟨len1 ob, Lr_of (by rw [List.getElem?_set_self (List.getElem?_eq_some_iff.1 ho).1]), fun m' hm' => ?_⟩
    obtain ⟨m, hm, hle, he⟩ := hl m' hm'
    exact ⟨m, by rw [← hl']; exact hm, hle, fun e => by rw [thAt_same]; exact he e⟩
  · refine ⟨s, ?_, fun m' hm' => ⟨m', hm', Nat.le_refl _, fun _ => thAt_other hid⟩⟩
    rw [← hl']; exact Lr_of (by rw [List.getElem?_set_ne (Ne.symm hid)]; exact ho')

theorem thAt_self (θ : Th) (id : Nat) : thAt θ id (θ id) = θ := by funext i; unfold thAt; split <;> simp_all

theorem frz1_ok (hs : StR Φ θ base w env objs a.tmps) (c : CV) : ∃ Φ', Le Φ Φ' ∧ New Φ Φ' base ∧ Go2 θ θ objs (frz1 objs c) ∧ StR Φ' θ base w env (frz1 objs c) a.tmps ∧
    (∀ id, refId c = some id → ∀ e k xs, objs[id]? = some (Ob.arr e k xs) → (frz1 objs c)[id]? = some (Ob.frz e k xs)) ∧ (∀ (i : Nat) (ob : Ob), objs[i]? = some ob → (∀ e k xs, ob ≠ Ob.arr e k xs) → (frz1 objs c)[i]? = some ob) ∧
    (∀ (i e k : Nat) (xs : List (List DV)), objs[i]? = some (Ob.arr e k xs) → (frz1 objs c)[i]? = some (Ob.arr e k xs) ∨ (frz1 objs c)[i]? = some (Ob.frz e k xs)) := by
  have triv : frz1 objs c = objs → (∀ id, refId c = some id → ∀ e k xs, objs[id]? ≠ some (Ob.arr e k xs)) → ∃ Φ', Le Φ Φ' ∧ New Φ Φ' base ∧ Go2 θ θ objs (frz1 objs c) ∧ StR Φ' θ base w env (frz1 objs c) a.tmps ∧
    (∀ id, refId c = some id → ∀ e k xs, objs[id]? = some (Ob.arr e k xs) → (frz1 objs c)[id]? = some (Ob.frz e k xs)) ∧ (∀ (i : Nat) (ob : Ob), objs[i]? = some ob → (∀ e k xs, ob ≠ Ob.arr e k xs) → (frz1 objs c)[i]? = some ob) ∧
    (∀ (i e k : Nat) (xs : List (List DV)), objs[i]? = some (Ob.arr e k xs) → (frz1 objs c)[i]? = some (Ob.arr e k xs) ∨ (frz1 objs c)[i]? = some (Ob.frz e k xs)) := by
    intro he hno
    rw [he]
    exact ⟨Φ, Le.refl _, New.refl _ _, Go2.refl _ _, hs, fun id hc e k xs ho => absurd ho (hno id hc e k xs), fun i ob h _ => h, fun i e k xs h => .inl h⟩
  have main : ∀ id : Nat, refId c = some id → frz1 objs c = (match objs[id]? with | some (.arr e k xs) => objs.set id (.frz e k xs) | _ => objs) → ∃ Φ', Le Φ Φ' ∧ New Φ Φ' base ∧ Go2 θ θ objs (frz1 objs c) ∧ StR Φ' θ base w env (frz1 objs c) a.tmps ∧
    (∀ id, refId c = some id → ∀ e k xs, objs[id]? = some (Ob.arr e k xs) → (frz1 objs c)[id]? = some (Ob.frz e k xs)) ∧ (∀ (i : Nat) (ob : Ob), objs[i]? = some ob → (∀ e k xs, ob ≠ Ob.arr e k xs) → (frz1 objs c)[i]? = some ob) ∧
    (∀ (i e k : Nat) (xs : List (List DV)), objs[i]? = some (Ob.arr e k xs) → (frz1 objs c)[i]? = some (Ob.arr e k xs) ∨ (frz1 objs c)[i]? = some (Ob.frz e k xs)) := by
    intro id hid hfz
    cases hob : objs[id]? with
    | none => exact triv (by rw [hfz, hob]) (fun id' hc e k xs => by rw [hid] at hc; injection hc with h1; subst h1; rw [hob]; simp)
    | some ob =>
      cases ob with
      | arr e k xs =>
        have hf : frz1 objs c = objs.set id (.frz e k xs) := by rw [hfz, hob]
        obtain ⟨vs, hown, hden, hall, hk0, hno⟩ := hs.ob id _ hob
        have hlt := (List.getElem?_eq_some_iff.1 hob).1
        have hgo : Go2 θ θ objs (objs.set id (.frz e k xs)) := by
          have := go_set (θ := θ) (v := θ id) (ob := .frz e k xs) hob (fun m' hm' => ⟨m', hm', Nat.le_refl _, fun _ => rfl⟩)
          rwa [thAt_self] at this
        have hofs : ∀ b o m c, θ id = .slice (some ⟨b, o, none⟩) m c → o = 0 := by
          intro b o m c hθ
          rcases hown.2 with ⟨h1, _⟩ | ⟨g, cap, cur, h1, _⟩
          · rw [h1] at hθ; cases hθ
          · rw [h1] at hθ; injection hθ with hθ; injection hθ with hθ; injection hθ with _ h2; exact h2.symm
        have fin : ∀ Φ', Le Φ Φ' → New Φ Φ' base → Sat Φ' w → Den Φ' (.sl xs) (θ id) → (∀ i b, i ≠ id → mblk θ objs i = some b → ∀ o, Φ' b o = Φ b o) → StR Φ' θ base w env (objs.set id (.frz e k xs)) a.tmps := by
          intro Φ' hle hnew hsat hd hoth
          refine ⟨hsat, hs.env.imp fun _ _ => TVR.go hle hgo, fun i ob hi => ?_, fun i j b hi hj => ?_, hs.base⟩
          · by_cases hid : i = id
            · subst hid
              rw [List.getElem?_set_self hlt] at hi; injection hi with hi; subst hi
              exact ⟨hd, hall, hk0, hofs⟩
            · rw [List.getElem?_set_ne (Ne.symm hid)] at hi
              refine (hs.ob i ob hi).keep hle hgo rfl (fun b hp hk => ⟨rfl, hoth i b hid ?_⟩)
              unfold mblk; rw [hi]
              rcases hk with ⟨t, cs, rfl⟩ | ⟨e, k, xs, rfl⟩ | ⟨l, rfl⟩ <;> exact hp
          · have key : ∀ i b, mblk θ (objs.set id (.frz e k xs)) i = some b → mblk θ objs i = some b := by
              intro i b hi
              by_cases hid : i = id
              · subst hid
                unfold mblk at hi
                rw [List.getElem?_set_self hlt] at hi; cases hi
              · unfold mblk at hi ⊢
                rwa [List.getElem?_set_ne (Ne.symm hid)] at hi
            exact hs.apart i j b (key i b hi) (key j b hj)
        have rest : (∀ id', refId c = some id' → ∀ e' k' xs', objs[id']? = some (.arr e' k' xs') → (frz1 objs c)[id']? = some (.frz e' k' xs')) ∧ (∀ (i : Nat) (ob : Ob), objs[i]? = some ob → (∀ e k xs, ob ≠ Ob.arr e k xs) → (frz1 objs c)[i]? = some ob) ∧
          (∀ (i e' k' : Nat) (xs' : List (List DV)), objs[i]? = some (Ob.arr e' k' xs') → (frz1 objs c)[i]? = some (Ob.arr e' k' xs') ∨ (frz1 objs c)[i]? = some (Ob.frz e' k' xs')) := by
          rw [hf]
          refine ⟨fun id' hc e' k' xs' ho' => ?_, fun i ob hi hne => ?_, fun i e' k' xs' hi => ?_⟩
          · rw [hid] at hc; injection hc with h1; subst h1
            rw [hob] at ho'; injection ho' with ho'; injection ho' with h1 h2 h3; subst h1; subst h2; subst h3
            exact List.getElem?_set_self hlt
          · have hid : i ≠ id := fun e' => by subst e'; rw [hob] at hi; injection hi with hi; exact hne _ _ _ hi.symm
            rw [List.getElem?_set_ne (Ne.symm hid)]; exact hi
          · by_cases hid : i = id
            · subst hid
              rw [hob] at hi; injection hi with hi; injection hi with h1 h2 h3; subst h1; subst h2; subst h3
              exact .inr (List.getElem?_set_self hlt)
            · exact .inl (by rw [List.getElem?_set_ne (Ne.symm hid)]; exact hi)
        cases hb : pblk (θ id) with
        | none =>
          have hnil : xs = [] := by
            rcases hown.2 with ⟨_, h0⟩ | ⟨g, cap, cur, h1, _⟩
            · exact List.eq_nil_of_length_eq_zero h0
            · rw [h1] at hb; cases hb
          subst hnil
          have hd : Den Φ (.sl []) (θ id) := by
            rcases hown.2 with ⟨h1, _⟩ | ⟨g, cap, cur, h1, _⟩ <;> (rw [h1]; exact .nil _ _)
          have hst := fin Φ (Le.refl _) (New.refl _ _) hs.sat hd (fun _ _ _ _ _ => rfl)
          exact ⟨Φ, Le.refl _, New.refl _ _, by rw [hf]; exact hgo, by rw [hf]; exact hst, rest⟩
        | some b =>
          have hno' := hno b hb
          obtain ⟨hge, hblt⟩ := own_ge hown hb
          have hle : Le Φ (addRow Φ b vs) := addRow_le hno'
          have hnew : New Φ (addRow Φ b vs) base := fun b' o hb' => by unfold addRow; rw [if_neg (by omega)]
          rcases den_of_row hown hden hall hk0 hb hno' with ⟨hd, hsat⟩ | hn
          · have hst := fin _ hle hnew hsat hd (fun i b' hi hm o => by
              have : b' ≠ b := fun e' => by
                subst e'
                have hm' : mblk θ objs id = some b' := by unfold mblk; rw [hob]; exact hb
                exact hi (hs.apart i id b' hm hm')
              unfold addRow; rw [if_neg this])
            exact ⟨addRow Φ b vs, hle, hnew, by rw [hf]; exact hgo, by rw [hf]; exact hst, rest⟩
          · exact absurd hs.sat hn
      | nil => exact triv (by rw [hfz, hob]) (fun id' hc e k xs => by rw [hid] at hc; injection hc with h1; subst h1; rw [hob]; simp)
      | box t cs => exact triv (by rw [hfz, hob]) (fun id' hc e k xs => by rw [hid] at hc; injection hc with h1; subst h1; rw [hob]; simp)
      | tab l => exact triv (by rw [hfz, hob]) (fun id' hc e k xs => by rw [hid] at hc; injection hc with h1; subst h1; rw [hob]; simp)
      | frz e k xs => exact triv (by rw [hfz, hob]) (fun id' hc e k xs => by rw [hid] at hc; injection hc with h1; subst h1; rw [hob]; simp)
  cases c with
  | own id n => exact main id rfl rfl
  | vw id n lo hi k => exact main id rfl rfl
  | d x => exact triv rfl (fun _ hc => by cases hc)
  | ptr _ _ _ => exact triv rfl (fun _ hc => by cases hc)
  | fp _ => exact triv rfl (fun _ hc => by cases hc)
  | unk => exact triv rfl (fun _ hc => by cases hc)
  | nil => exact triv rfl (fun _ hc => by cases hc)
  | unkB => exact triv rfl (fun _ hc => by cases hc)
  | clo _ _ _ => exact triv rfl (fun _ hc => by cases hc)
  | mp _ => exact triv rfl (fun _ hc => by cases hc)

end
end Go.Vm
