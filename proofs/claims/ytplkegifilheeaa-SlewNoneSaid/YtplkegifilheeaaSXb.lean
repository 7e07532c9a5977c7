/- Symbolic execution of the model's code, part 2: the operations that only compute or read. -/
import Derived.Test.YtplkegifilheeaaSXa
import Derived.Laws.Build
namespace Go.SX

/-- A constant of the program's text, or a type's zero, as an abstract value. -/
def ofInts : List Value → Option AV
  | [] => some .nil
  | .int k n :: r => if inR k n = true then (ofInts r).map fun l => .cons (.int k (.lit n)) l else none
  | .bool b :: r => (ofInts r).map fun l => .cons (.bool (.lit (ofB b))) l
  | .string s :: r => (ofInts r).map fun l => .cons (.str s) l
  | .pointer none :: r => (ofInts r).map fun l => .cons .nilptr l
  | .slice none 0 0 :: r => (ofInts r).map fun l => .cons .nilslice l
  | .nilFunc :: r => (ofInts r).map fun l => .cons .nilFunc l
  | .nilIface :: r => (ofInts r).map fun l => .cons .nilIface l
  | _ => none
def ofV : Value → Option AV
  | .int k n => if inR k n = true then some (.int k (.lit n)) else none
  | .bool b => some (.bool (.lit (ofB b)))
  | .string s => some (.str s)
  | .pointer none => some .nilptr
  | .slice none 0 0 => some .nilslice
  | .nilFunc => some .nilFunc
  | .nilIface => some .nilIface
  | .agg cs => (ofInts cs.toList).map .agg
  | .tuple cs => (ofInts cs.toList).map .tuple
  | _ => none

def opd (slots : List (Option AV)) : Operand → Option AV
  | .tmp t => match slots[t]? with
    | some x => x
    | none => none
  | .const v => ofV v
  | .global g => some (.gptr g)
  | .func f => some (.fn f .nil)

def isShift : BinOp → Bool
  | .shl | .shr => true
  | _ => false
def isDiv : BinOp → Bool
  | .quo | .rem => true
  | _ => false
def isCmp : BinOp → Bool
  | .eql | .neq | .lss | .leq | .gtr | .geq => true
  | _ => false

/-- Are two values the same, both of one scalar kind? -/
def eqS (P : Program) (t : TypeId) (x y : AV) : Option SE :=
  match P.underlying t, x, y with
  | some (.int _), .int k a, .int k' b => if k = k' then some (mkCmp .eql a b) else none
  | some .bool, .bool a, .bool b => some (mkCmp .eql (mkNot a) (mkNot b))
  | some .string, .str a, .str b => some (.lit (ofB (a.toList == b.toList)))
  | some (.pointer _), .nilptr, .nilptr => some (.lit 1)
  | some (.pointer _), .nilptr, .ptr _ _ => some (.lit 0)
  | some (.pointer _), .ptr _ _, .nilptr => some (.lit 0)
  | _, _, _ => none

/-- The part of a struct or an array. -/
def partA (P : Program) (t : TypeId) (cs : List AV) (off : Nat) : Option AV :=
  match P.underlying t, P.info? t with
  | some (.struct _), some i | some (.array _ _), some i => if off + i.size ≤ cs.length then some (.agg (ofList ((cs.drop off).take i.size))) else none
  | some (.struct _), none | some (.array _ _), none | none, _ => none
  | _, _ => cs[off]?

def eqF (P : Program) (xs ys : List AV) : List Field → Option SE
  | [] => some (.lit 1)
  | f :: fs => if f.name ≠ "_" then
      (partA P f.type xs f.offset).bind fun a => (partA P f.type ys f.offset).bind fun b =>
      (eqS P f.type a b).bind fun c => (eqF P xs ys fs).map fun d => mkAnd c d
    else eqF P xs ys fs

def fieldsOf (P : Program) (t : TypeId) : Option (List Field) :=
  match P.underlying t with
  | some (.struct fs) => some fs.toList
  | _ => none

/-- x == y -/
def eqA (P : Program) (t : TypeId) (x y : AV) : Option SE :=
  match x, y with
  | .agg xs, .agg ys =>
    if P.stoodInHeld t || P.eqGuardType P.depth t then none else
    (fieldsOf P t).bind fun fs => eqF P xs.members ys.members fs
  | .int _ _, .int _ _ => none
  | .str _, .str _ => none
  | x, y => eqS P t x y

def eqBytes : SE → SE → SE
  | .cons a r, .cons b s => mkAnd (mkCmp .eql a b) (eqBytes r s)
  | .nil, .nil => .lit 1
  | _, _ => .lit 0
def lenSE : SE → Nat
  | .cons _ r => lenSE r + 1
  | _ => 0
def chain : SE → Bool
  | .cons _ r => chain r
  | .nil => true
  | _ => false

def binA (P : Program) (op : BinOp) (t : TypeId) (x y : AV) : Option (List SE × AV) :=
  match x, y with
  | .int k a, .int k' b =>
    if isShift op then some ([mkCmp .geq b (.lit 0)], .int k (mkBin op k a b))
    else if k = k' then
      if isDiv op then some ([mkCmp .neq b (.lit 0)], .int k (mkBin op k a b))
      else if isCmp op then some ([], .bool (mkCmp op a b))
      else some ([], .int k (mkBin op k a b))
    else none
  | .bstr a, .bstr b =>
    match op with
    | .eql => if chain a && chain b then some ([], .bool (eqBytes a b)) else none
    | .neq => if chain a && chain b then some ([], .bool (mkNot (eqBytes a b))) else none
    | _ => none
  | .str a, .str b =>
    match op with
    | .eql => some ([], .bool (.lit (ofB (a.toList == b.toList))))
    | .neq => some ([], .bool (.lit (ofB (!(a.toList == b.toList)))))
    | _ => none
  | x, y =>
    match op with
    | .eql => (eqA P t x y).map fun c => ([], .bool c)
    | .neq => (eqA P t x y).map fun c => ([], .bool (mkNot c))
    | _ => none

def unA (op : UnOp) (x : AV) : Option AV :=
  match op, x with
  | .neg, .int k a => some (.int k (mkBin .sub k (.lit 0) a))
  | .xor, .int k a => some (.int k (mkBin .xor k (.lit (if k.signed then -1 else k.max)) a))
  | .not, .bool a => some (.bool (mkNot a))
  | _, _ => none

def convA (P : Program) (src dst : TypeId) (x : AV) : Option AV :=
  match P.underlying src, P.underlying dst, x with
  | some _, some (.int k), .int _ a => some (.int k (mkConv k a))
  | some .string, some .string, .str s => some (.str s)
  | _, _, _ => none

def sizeA (P : Program) (t : TypeId) : Option Nat := (P.info? t).map (·.size)

def fieldAddrA (P : Program) (t : TypeId) (x : AV) (f : Nat) : Option AV :=
  (fieldsOf P t).bind fun fs => (fs[f]?).bind fun fd =>
    match sizeA P fd.type with
    | some (_ + 1) => match x with
      | .ptr id off => some (.ptr id (off + fd.offset))
      | .sptr id i s off => some (.sptr id i s (off + fd.offset))
      | _ => none
    | _ => none

def fieldA (P : Program) (t : TypeId) (x : AV) (f : Nat) : Option AV :=
  match x with
  | .agg l => (fieldsOf P t).bind fun fs => (fs[f]?).bind fun fd => partA P fd.type l.members fd.offset
  | _ => none

/-- The address of a member; what must hold. -/
def indexAddrA (P : Program) (mem : List AObj) (t : TypeId) (x i : AV) : Option (List SE × AV) :=
  match P.underlying t, x, i with
  | some (.array n e), .ptr id off, .int _ (.lit j) =>
    match sizeA P e with
    | some s => if 0 ≤ j ∧ j < n then some ([], .ptr id (off + j.toNat * s)) else none
    | none => none
  | some (.slice e), .slice id off len _, .int _ ix =>
    match sizeA P e with
    | some s => match ix with
      | .lit j => if 0 ≤ j then some ([mkCmp .lss (.lit j) len], .ptr id (off + j.toNat * s)) else none
      | _ => if off = 0 then some ([mkCmp .leq (.lit 0) ix, mkCmp .lss ix len], .sptr id ix s 0) else none
    | none => none
  | some (.slice e), .arg id, .int _ ix =>
    match sizeA P e, mem[id]? with
    | some s, some (.sym n _ _ _) => match ix with
      | .lit j => if 0 ≤ j then some ([mkCmp .lss (.lit j) n], .ptr id (j.toNat * s)) else none
      | _ => some ([mkCmp .leq (.lit 0) ix, mkCmp .lss ix n], .sptr id ix s 0)
    | _, _ => none
  | some (.slice e), .row id off len _, .int _ ix =>
    match sizeA P e with
    | some s => match ix with
      | .lit j => if 0 ≤ j then some ([mkCmp .lss (.lit j) len], .ptr id (off + j.toNat * s)) else none
      | _ => none
    | none => none
  | _, _, _ => none

def indexA (P : Program) (t : TypeId) (x i : AV) : Option AV :=
  match P.underlying t, x, i with
  | some (.array n e), .agg l, .int _ (.lit j) =>
    match sizeA P e with
    | some s => if 0 ≤ j ∧ j < n then partA P e l.members (j.toNat * s) else none
    | none => none
  | _, _, _ => none

def takeC (cs : List AV) (off n : Nat) : Option (List AV) := if off + n ≤ cs.length then some ((cs.drop off).take n) else none

def aggD : TypeDesc → Bool
  | .struct _ | .array _ _ => true
  | _ => false

/-- The cells of member i of a row. -/
def rowAt (row : List (IntKind × Nat)) (i : SE) : List AV := row.map fun p => .int p.1 (.app p.2 (.cons i .nil))

/-- What a place holds. -/
def loadA (P : Program) (mem : List AObj) (t : TypeId) (x : AV) : Option (List SE × AV) :=
  match P.underlying t, sizeA P t with
  | some d, some n =>
    match x with
    | .ptr id off => match mem[id]? with
      | some (.cells c _ _ _) => (if aggD d then (takeC c off n).map fun l => .agg (ofList l) else c[off]?).map fun a => ([], a)
      | some (.sym m _ row _) =>
        let i := SE.lit (off / row.length : Nat)
        (if aggD d then (takeC (rowAt row i) (off % row.length) n).map fun l => .agg (ofList l) else (rowAt row i)[off % row.length]?).map fun a => ([mkCmp .lss i m], a)
      | _ => none
    | .sptr id i s off => match mem[id]? with
      | some (.sym m _ row _) => if s = row.length then
          (if aggD d then (takeC (rowAt row i) off n).map fun l => .agg (ofList l) else (rowAt row i)[off]?).map fun a => ([mkCmp .leq (.lit 0) i, mkCmp .lss i m], a)
        else none
      | _ => none
    | _ => none
  | _, _ => none

def fillA (place : Nat → Option (Nat × Nat)) (cells : List AV) : List (Nat × AV) → Option (List AV)
  | [] => some cells
  | (i, v) :: rest =>
    match place i with
    | none => none
    | some (off, size) =>
      if v.cells.length ≠ size || off + v.cells.length > cells.length then none
      else fillA place (cells.take off ++ v.cells ++ cells.drop (off + v.cells.length)) rest

def zeroA (P : Program) (t : TypeId) : Option AV := ((P.info? t).bind (·.zero)).bind ofV

def partsA (ev : Operand → Option AV) : List (Nat × Operand) → Option (List (Nat × AV))
  | [] => some []
  | (i, x) :: r => (ev x).bind fun a => (partsA ev r).map fun l => (i, a) :: l

def places (P : Program) : List Field → Option (List (Nat × Nat))
  | [] => some []
  | f :: fs => (sizeA P f.type).bind fun s => (places P fs).map fun l => (f.offset, s) :: l

def buildA (P : Program) (t : TypeId) (parts : List (Nat × AV)) : Option AV :=
  (zeroA P t).bind fun z =>
  match P.underlying t with
  | some (.struct fs) => (places P fs.toList).bind fun pl => (fillA (fun i => pl[i]?) z.cells parts).map fun c => .agg (ofList c)
  | some (.array _ e) => (sizeA P e).bind fun s => (fillA (fun i => some (i * s, s)) z.cells parts).map fun c => .agg (ofList c)
  | _ => none

/-- A slice expression, its bounds as numbers. -/
def litOf : Option AV → Option (Option Nat)
  | none => some none
  | some (.int _ (.lit n)) => if 0 ≤ n then some (some n.toNat) else none
  | _ => none
def sliceA (P : Program) (mem : List AObj) (t : TypeId) (x : AV) (lo hi : Option AV) : Option (List SE × AV) :=
  match P.underlying t with
  | some (.slice e) => match sizeA P e, litOf lo, litOf hi with
    | some s, some lo', some hi' =>
      let l := lo'.getD 0
      match x with
      | .arg id => match mem[id]? with
        | some (.sym n cap _ _) => match hi' with
          | some h => if l ≤ h ∧ 0 < h then some ((if l = 0 then [] else [mkCmp .lss (.lit l) cap]) ++ [mkCmp .leq (.lit h) cap], .slice id (l * s) (.lit (h - l : Nat)) (if l = 0 then cap else mkBin .sub .i64 cap (.lit l))) else none
          | none => if l = 0 then none else some ([mkCmp .lss (.lit l) cap, mkCmp .leq (.lit l) n], .slice id (l * s) (mkBin .sub .i64 n (.lit l)) (mkBin .sub .i64 cap (.lit l)))
        | _ => none
      | .slice id off len cap =>
        let cap' := if l = 0 then cap else mkBin .sub .i64 cap (.lit l)
        let base := if l = 0 then [] else [mkCmp .lss (.lit l) cap, mkCmp .leq cap (.lit 9223372036854775807)]
        match hi' with
        | some h => if l ≤ h then some (base ++ [mkCmp .leq (.lit h) cap], .slice id (off + l * s) (.lit (h - l : Nat)) cap') else none
        | none => some (base ++ [mkCmp .leq (.lit l) len, mkCmp .leq len (.lit 9223372036854775807)], .slice id (off + l * s) (if l = 0 then len else mkBin .sub .i64 len (.lit l)) cap')
      | .row id off (.lit n) skip =>
        let h := hi'.getD n.toNat
        match mem[id]? with
        | some (.cells c _ _ (some s')) =>
          if s' = s ∧ 0 < s ∧ 0 ≤ n ∧ off = skip * s ∧ off + n.toNat * s ≤ c.length ∧ l ≤ h ∧ h ≤ n.toNat ∧ (l = 0 ∨ l < n.toNat) then some ([], .row id (off + l * s) (.lit (h - l : Nat)) (skip + l)) else none
        | _ => none
      | _ => none
    | _, _, _ => none
  | _ => none

/-- Bytes as a text. -/
def bytesOf : List AV → Option SE
  | [] => some .nil
  | .int .u8 e :: r => (bytesOf r).map fun l => .cons e l
  | _ => none
def bytesA (P : Program) (mem : List AObj) (src dst : TypeId) (x : AV) : Option (List SE × AV) :=
  match P.underlying src, P.underlying dst with
  | some (.slice e), some .string => match P.underlying e with
    | some (.int .u8) => match x with
      | .nilslice => some ([], .bstr .nil)
      | .row id off (.lit n) _ => match mem[id]? with
        | some (.cells c _ _ _) => if 0 ≤ n then (takeC c off n.toNat).bind fun l => (bytesOf l).map fun b => ([], .bstr b) else none
        | _ => none
      | .slice id off (.lit n) _ => match mem[id]? with
        | some (.sym m _ row _) => if 0 ≤ n ∧ row.length = 1 then
            (bytesOf ((List.range n.toNat).flatMap fun j => rowAt row (.lit (off + j : Nat)))).map fun b => ([mkCmp .leq (.lit (off + n.toNat : Nat)) m, mkCmp .lss (.lit 0) m], .bstr b) else none
        | _ => none
      | _ => none
    | _ => none
  | _, _ => none

def evs (ev : Operand → Option AV) : List Operand → Option (List AV)
  | [] => some []
  | x :: r => (ev x).bind fun a => (evs ev r).map fun l => a :: l

def lenA (P : Program) (mem : List AObj) (t : TypeId) (x : AV) : Option (List SE × AV) :=
  match P.underlying t, x with
  | some (.slice _), .slice _ _ n _ => some ([mkCmp .leq (.lit 0) n, mkCmp .leq n (.lit 9223372036854775807)], .int .i64 n)
  | some (.slice _), .arg id => match mem[id]? with
    | some (.sym n _ _ _) => some ([], .int .i64 n)
    | _ => none
  | some (.slice _), .row _ _ n _ => some ([mkCmp .leq (.lit 0) n, mkCmp .leq n (.lit 9223372036854775807)], .int .i64 n)
  | some (.slice _), .nilslice => if inR .i64 0 = true then some ([], .int .i64 (.lit 0)) else none
  | some (.array n _), _ => if inR .i64 n = true then some ([], .int .i64 (.lit n)) else none
  | some .string, .str s => if inR .i64 s.size = true then some ([], .int .i64 (.lit s.size)) else none
  | _, _ => none

def maxA (f : SE → SE → SE) (k : IntKind) (a : SE) : List AV → Option AV
  | [] => some (.int k a)
  | .int k' b :: r => if k' = k then maxA f k (f a b) r else none
  | _ => none
def max2 (f : SE → SE → SE) : List AV → Option AV
  | .int k a :: r => maxA f k a r
  | _ => none

def builtinA (P : Program) (mem : List AObj) (b : Builtin) (ts : Array TypeId) (xs : List AV) : Option (List SE × AV) :=
  match b, ts.toList, xs with
  | .len, [t], [x] => lenA P mem t x
  | .max, _, xs => (max2 mkMx xs).map fun a => ([], a)
  | .min, _, xs => (max2 mkMn xs).map fun a => ([], a)
  | _, _, _ => none

/-- An operation that only computes or reads: what must hold, and its value. -/
def pureA (P : Program) (mem : List AObj) (ev : Operand → Option AV) (op : Op) : Option (List SE × AV) :=
  let ok (x : Option AV) : Option (List SE × AV) := x.map fun a => ([], a)
  match op with
  | .move x | .assign x => ok (ev x)
  | .pick c a b => match ev c with
    | some (.bool (.lit n)) => ok (if n ≠ 0 then ev a else ev b)
    | _ => none
  | .nilCheck x => match ev x with
    | some (.ptr id off) => some ([], .ptr id off)
    | some (.sptr id i s off) => some ([], .sptr id i s off)
    | some (.gptr g) => some ([], .gptr g)
    | some (.fn f c) => some ([], .fn f c)
    | _ => none
  | .binOp op t x y _ => (ev x).bind fun a => (ev y).bind fun b => binA P op t a b
  | .unOp op _ x => ok ((ev x).bind (unA op))
  | .convert s d x => (ev x).bind fun a => match convA P s d a with
    | some r => some ([], r)
    | none => bytesA P mem s d a
  | .slice t x lo hi none =>
    let o (y : Option Operand) : Option (Option AV) := match y with
      | none => some none
      | some y => (ev y).map some
    (ev x).bind fun a => (o lo).bind fun l => (o hi).bind fun h => sliceA P mem t a l h
  | .makeInterface t x => if P.concrete t then ok ((ev x).map (.iface t)) else none
  | .makeFunc (.func f) first cap => if first.size = 0 then ok ((evs ev cap.toList).map fun l => .fn f (ofList l)) else none
  | .fieldAddr t x f => ok ((ev x).bind fun a => fieldAddrA P t a f)
  | .field t x f => ok ((ev x).bind fun a => fieldA P t a f)
  | .indexAddr t x i => (ev x).bind fun a => (ev i).bind fun b => indexAddrA P mem t a b
  | .index t x i => ok ((ev x).bind fun a => (ev i).bind fun b => indexA P t a b)
  | .load t x => (ev x).bind fun a => loadA P mem t a
  | .extract x i => match ev x with
    | some (.tuple l) => ok (l.members[i]?)
    | _ => none
  | .build t ps => ok ((partsA ev ps.toList).bind (buildA P t))
  | .call c => match c.callee with
    | .builtin b => (evs ev c.args.toList).bind (builtinA P mem b c.argTypes)
    | _ => none
  | _ => none

end Go.SX
