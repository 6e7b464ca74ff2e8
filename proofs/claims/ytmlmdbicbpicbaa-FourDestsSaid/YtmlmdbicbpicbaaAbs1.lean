/- An abstract interpreter of the model's code: values whose block numbers are abstract ones, a heap of such blocks, and what each operation does to them. Definitions alone. -/
import Derived.RangeFuncCalls
import Derived.RangeFuncRecord
import Derived.Below
import Derived.KernelRfl
import Derived.Laws.StructEq
import Derived.Laws.IdiomCopy
set_option autoImplicit false
namespace Go.Abs

/-- Values. 'any' stands for whatever value. An address is a block's abstract number and a place in it. -/
inductive AV where
  | any
  | bool (b : Bool)
  | int (k : IntKind) (n : Int)
  | str (s : List UInt8)
  | ptr (a : Option (Nat × Nat))
  | sl (a : Option (Nat × Nat)) (len cap : Nat) (ex : Bool)
  | map (r : Option Nat)
  | fn (f : Fn) (cap : List AV)
  | nilFn
  | agg (l : List AV)
  | tup (l : List AV)
  deriving Inhabited

/-- How a piece of code is left. -/
inductive AEx where
  | norm
  | exit (id : Nat)
  | ret
  deriving Inhabited, DecidableEq

/-- own: written by the call; ro: read alone (a longer one was made of it); far: the caller's. -/
inductive Md where
  | own | ro | far
  deriving Inhabited, DecidableEq

structure ALoop where
  st : LoopState
  pend : Option AEx
  env : List AV
  ps : List Tmp
  asg : Code
  body : Code
  deriving Inhabited

inductive ABlk where
  | cells (vs : List AV) (esz : Nat) (md : Md) (par : Option Nat)
  | mp (es : List (AV × AV × Nat)) (clk : Nat)
  | lp (l : ALoop)
  | dead
  deriving Inhabited

abbrev AHeap := List ABlk
abbrev Env := List AV

mutual
def AV.beq : AV → AV → Bool
  | .any, .any => true
  | .bool a, .bool b => a == b
  | .int k a, .int k' b => decide (k = k') && decide (a = b)
  | .str a, .str b => decide (a = b)
  | .ptr a, .ptr b => decide (a = b)
  | .sl a l c e, .sl a' l' c' e' => decide (a = a') && decide (l = l') && decide (c = c') && (e == e')
  | .map a, .map b => decide (a = b)
  | .fn f l, .fn g m => decide (f = g) && AV.beqs l m
  | .nilFn, .nilFn => true
  | .agg l, .agg m => AV.beqs l m
  | .tup l, .tup m => AV.beqs l m
  | _, _ => false
def AV.beqs : List AV → List AV → Bool
  | [], [] => true
  | a :: l, b :: m => AV.beq a b && AV.beqs l m
  | _, _ => false
end

/-- A value of one cell. -/
def AV.isCell : AV → Bool
  | .any | .agg _ | .tup _ => false
  | _ => true

/-- Its cells, if these are known. -/
def AV.cells : AV → Option (List AV)
  | .any | .tup _ => none
  | .agg l => some l
  | v => some [v]

/-- A value without addresses, as an abstract one. -/
def ofV1 : Value → AV
  | .bool b => .bool b
  | .int k n => .int k n
  | .string s => .str s.data.toList
  | .pointer none => .ptr none
  | .slice none 0 0 => .sl none 0 0 true
  | .map none => .map none
  | .func (.func f) first captured => if first.isEmpty && captured.isEmpty then .fn (.func f) [] else .any
  | .nilFunc => .nilFn
  | _ => .any

def ofV : Value → AV
  | .agg cs => .agg (cs.toList.map ofV1)
  | .tuple vs => .tup (vs.toList.map ofV1)
  | v => ofV1 v

/-! ### The heap -/

def cellAt (h : AHeap) (i o : Nat) : Option AV :=
  match h[i]? with
  | some (.cells vs _ _ _) => vs[o]?
  | _ => none

def cellsAt (h : AHeap) (i o n : Nat) : Option (List AV) :=
  match h[i]? with
  | some (.cells vs _ _ _) => if o + n ≤ vs.length then some ((vs.drop o).take n) else none
  | _ => none

/-- A number, a truth, a text that stand in a row: is it one? which? -/
def isIntV (k : IntKind) : Option AV → Bool
  | some (.int k' _) => decide (k' = k)
  | _ => false
def intV : Option AV → Int
  | some (.int _ n) => n
  | _ => 0
def isBoolV : Option AV → Bool
  | some (.bool _) => true
  | _ => false
def boolV : Option AV → Bool
  | some (.bool b) => b
  | _ => false

/-- A cell, told by its type. -/
def typed (d : Option TypeDesc) (x : Option AV) : Option AV :=
  match d with
  | some (.int k) => if isIntV k x = true then some (.int k (intV x)) else none
  | some .bool => if isBoolV x = true then some (.bool (boolV x)) else none
  | _ => x

def typedK {R : Type} (d : Option TypeDesc) (x : Option AV) (K : AV → Option R) : Option R :=
  match d with
  | some (.int k) => if isIntV k x = true then K (.int k (intV x)) else none
  | some .bool => if isBoolV x = true then K (.bool (boolV x)) else none
  | _ => x.bind K

def cellsAtK {R : Type} (h : AHeap) (i o n : Nat) (K : List AV → Option R) : Option R :=
  match h[i]? with
  | some (.cells vs _ _ _) => if o + n ≤ vs.length then K ((vs.drop o).take n) else none
  | _ => none

def putCells : List AV → Nat → List AV → List AV
  | vs, _, [] => vs
  | vs, o, x :: xs => putCells (vs.set o x) (o + 1) xs

def killp (h : AHeap) : Option Nat → AHeap
  | none => h
  | some p => h.set p .dead

/-- Cells are written in a row: into a block of the call's own; who might share it is told no more. -/
def putAt (h : AHeap) (i o : Nat) (xs : List AV) : Option AHeap :=
  match h[i]? with
  | some (.cells vs e .own par) =>
    if o + xs.length ≤ vs.length ∧ xs.all AV.isCell = true then some ((killp h par).set i (.cells (putCells vs o xs) e .own none)) else none
  | _ => none

def putAtK {R : Type} (h : AHeap) (i o : Nat) (xs : List AV) (K : AHeap → Option R) : Option R :=
  match h[i]? with
  | some (.cells vs e .own par) =>
    if o + xs.length ≤ vs.length ∧ xs.all AV.isCell = true then K ((killp h par).set i (.cells (putCells vs o xs) e .own none)) else none
  | _ => none

/-! ### Types -/

def sizeA (P : Program) (t : TypeId) : Option Nat := (P.info? t).map (·.size)
def bytesA (P : Program) (t : TypeId) : Option Nat := (P.info? t).map (·.bytes)
def zeroA (P : Program) (t : TypeId) : Option AV := ((P.info? t).bind (·.zero)).map ofV
def zcells (P : Program) (t : TypeId) : Option (List AV) := (zeroA P t).bind AV.cells
def isAggA (P : Program) (t : TypeId) : Option Bool :=
  match P.underlying t with
  | some (.struct _) | some (.array _ _) => some true
  | some _ => some false
  | none => none
def sliceElem (P : Program) (t : TypeId) : Option TypeId :=
  match P.underlying t with
  | some (.slice e) => some e
  | _ => none

/-- So many times the cells of one. -/
def zrep (n : Nat) (zc : List AV) : List AV := (List.replicate n zc).flatten

/-! ### Operations on values and the heap -/

def aload (P : Program) (h : AHeap) (t : TypeId) : AV → Option AV
  | .ptr (some (i, o)) =>
    match isAggA P t, sizeA P t with
    | some true, some n => (cellsAt h i o n).map .agg
    | some false, _ => typed (P.underlying t) (cellAt h i o)
    | _, _ => none
  | _ => none

def aloadK {R : Type} (P : Program) (h : AHeap) (t : TypeId) (a : AV) (K : AV → Option R) : Option R :=
  match a with
  | .ptr (some (i, o)) =>
    match isAggA P t, sizeA P t with
    | some true, some n => cellsAtK h i o n fun cs => K (.agg cs)
    | some false, _ => typedK (P.underlying t) (cellAt h i o) K
    | _, _ => none
  | _ => none

def astore (P : Program) (h : AHeap) (t : TypeId) (a v : AV) : Option AHeap :=
  match a with
  | .ptr (some (i, o)) =>
    match v.cells, sizeA P t with
    | some xs, some (n + 1) => if xs.length = n + 1 then putAt h i o xs else none
    | _, _ => none
  | _ => none

def astoreK {R : Type} (P : Program) (h : AHeap) (t : TypeId) (a v : AV) (K : AHeap → Option R) : Option R :=
  match a with
  | .ptr (some (i, o)) =>
    match v.cells, sizeA P t with
    | some xs, some (n + 1) => if xs.length = n + 1 then putAtK h i o xs K else none
    | _, _ => none
  | _ => none

def apart (P : Program) (t : TypeId) (cs : List AV) (off : Nat) : Option AV :=
  match isAggA P t, sizeA P t with
  | some true, some n => if off + n ≤ cs.length then some (.agg ((cs.drop off).take n)) else none
  | some false, some _ => typed (P.underlying t) cs[off]?
  | _, _ => none

def apartK {R : Type} (P : Program) (t : TypeId) (cs : List AV) (off : Nat) (K : AV → Option R) : Option R :=
  match isAggA P t, sizeA P t with
  | some true, some n => if off + n ≤ cs.length then K (.agg ((cs.drop off).take n)) else none
  | some false, some _ => typedK (P.underlying t) cs[off]? K
  | _, _ => none

def afield (P : Program) (xt : TypeId) (x : AV) (f : Nat) : Option AV :=
  match P.underlying xt, x with
  | some (.struct fs), .agg cs =>
    match fs[f]? with
    | some fd => apart P fd.type cs fd.offset
    | none => none
  | _, _ => none

def afieldK {R : Type} (P : Program) (xt : TypeId) (x : AV) (f : Nat) (K : AV → Option R) : Option R :=
  match P.underlying xt, x with
  | some (.struct fs), .agg cs =>
    match fs[f]? with
    | some fd => apartK P fd.type cs fd.offset K
    | none => none
  | _, _ => none

def afieldAddr (P : Program) (s : TypeId) (x : AV) (f : Nat) : Option AV :=
  match P.underlying s, x with
  | some (.struct fs), .ptr (some (i, o)) =>
    match fs[f]? with
    | some fd => match sizeA P fd.type with
      | some (_ + 1) => some (.ptr (some (i, o + fd.offset)))
      | _ => none
    | none => none
  | _, _ => none

def aindexAddr (P : Program) (t : TypeId) (x ix : AV) : Option AV :=
  match ix with
  | .int _ n =>
    match P.underlying t, x with
    | some (.array len e), .ptr (some (i, o)) =>
      match sizeA P e with
      | some sz => if 0 ≤ n ∧ n < (len : Int) then some (.ptr (some (i, o + n.toNat * sz))) else none
      | none => none
    | some (.slice e), .sl (some (i, o)) len _ _ =>
      match sizeA P e with
      | some sz => if 0 ≤ n ∧ n < (len : Int) then some (.ptr (some (i, o + n.toNat * sz))) else none
      | none => none
    | _, _ => none
  | _ => none

def aindexAddrK {R : Type} (P : Program) (t : TypeId) (x ix : AV) (K : AV → Option R) : Option R :=
  match ix with
  | .int _ n =>
    match P.underlying t, x with
    | some (.array len e), .ptr (some (i, o)) =>
      match sizeA P e with
      | some sz => if 0 ≤ n ∧ n < (len : Int) then K (.ptr (some (i, o + n.toNat * sz))) else none
      | none => none
    | some (.slice e), .sl (some (i, o)) len _ _ =>
      match sizeA P e with
      | some sz => if 0 ≤ n ∧ n < (len : Int) then K (.ptr (some (i, o + n.toNat * sz))) else none
      | none => none
    | _, _ => none
  | _ => none

def aindex (P : Program) (t : TypeId) (x ix : AV) : Option AV :=
  match ix with
  | .int _ n =>
    match P.underlying t, x with
    | some (.array len e), .agg cs =>
      match sizeA P e with
      | some sz => if 0 ≤ n ∧ n < (len : Int) then apart P e cs (n.toNat * sz) else none
      | none => none
    | some .string, .str s => if 0 ≤ n ∧ n < (s.length : Int) then some (.int .u8 (s.getD n.toNat 0).toNat) else none
    | _, _ => none
  | _ => none

def aindexK {R : Type} (P : Program) (t : TypeId) (x ix : AV) (K : AV → Option R) : Option R :=
  match ix with
  | .int _ n =>
    match P.underlying t, x with
    | some (.array len e), .agg cs =>
      match sizeA P e with
      | some sz => if 0 ≤ n ∧ n < (len : Int) then apartK P e cs (n.toNat * sz) K else none
      | none => none
    | some .string, .str s => if 0 ≤ n ∧ n < (s.length : Int) then K (.int .u8 (s.getD n.toNat 0).toNat) else none
    | _, _ => none
  | _ => none

def aoptInt : Option AV → Option (Option Int)
  | none => some none
  | some (.int _ n) => some (some n)
  | some _ => none

/-- So many elements a slice surely has room for; what is left of it behind a slice expression. -/
def capOf (len r : Nat) (ex : Bool) : Nat := match ex with
  | true => r
  | false => len + r
def roomOf (len r a : Nat) (full : Bool) (b : Nat) (ex : Bool) : Nat := match ex, full with
  | true, _ => r - a
  | false, true => r
  | false, false => len + r - b

/-- A slice that is told by a place is surely not nil if its room is told, or if it holds one. -/
def sureNN (base : Option (Nat × Nat)) (len : Nat) (ex : Bool) : Bool := match base, ex with
  | none, _ => true
  | some _, true => true
  | some _, false => decide (0 < len)

/-- low and high of a slice expression, of so many that there are. -/
def abounds (len cap : Nat) (lo hi : Option Int) : Option (Nat × Nat) :=
  match hi with
  | some b =>
    if 0 ≤ b ∧ b ≤ (cap : Int) then
      match lo with
      | some a => if 0 ≤ a ∧ a ≤ b then some (a.toNat, b.toNat) else none
      | none => some (0, b.toNat)
    else none
  | none =>
    match lo with
    | some a => if 0 ≤ a ∧ a ≤ (len : Int) then some (a.toNat, len) else none
    | none => some (0, len)

def aboundsK {R : Type} (len cap : Nat) (lo hi : Option Int) (K : Nat → Nat → Option R) : Option R :=
  match hi with
  | some b =>
    if 0 ≤ b ∧ b ≤ (cap : Int) then
      match lo with
      | some a => if 0 ≤ a ∧ a ≤ b then K a.toNat b.toNat else none
      | none => K 0 b.toNat
    else none
  | none =>
    match lo with
    | some a => if 0 ≤ a ∧ a ≤ (len : Int) then K a.toNat len else none
    | none => K 0 len

/-- s[lo:hi:mx]; with mx the result has just that capacity. -/
def aslice (P : Program) (t : TypeId) (x : AV) (lo hi mx : Option AV) : Option AV :=
  match aoptInt lo, aoptInt hi, aoptInt mx with
  | some l, some hh, some m =>
    match P.underlying t, x with
    | some .string, .str s =>
      match m with
      | none => (abounds s.length s.length l hh).map fun (a, b) => .str ((s.take b).drop a)
      | some _ => none
    | some (.slice e), .sl base len cap ex =>
      match sizeA P e with
      | some sz =>
        match m, hh with
        | none, _ =>
          (abounds len (capOf len cap ex) l hh).map fun (a, b) => .sl (base.map fun (i, o) => (i, o + a * sz)) (b - a) (roomOf len cap a hh.isNone b ex) ex
        | some c, some _ =>
          if 0 ≤ c ∧ c ≤ (capOf len cap ex : Int) ∧ sureNN base len ex = true then
            (abounds len c.toNat l hh).map fun (a, b) => .sl (base.map fun (i, o) => (i, o + a * sz)) (b - a) (c.toNat - a) true
          else none
        | some _, none => none
      | none => none
    | some (.array n e), .ptr (some (i, o)) =>
      match sizeA P e, m with
      | some sz, none =>
        (abounds n n l hh).map fun (a, b) => .sl (some (i, o + a * sz)) (b - a) (n - a) true
      | _, _ => none
    | _, _ => none
  | _, _, _ => none

def asliceK {R : Type} (P : Program) (t : TypeId) (x : AV) (lo hi mx : Option AV) (K : AV → Option R) : Option R :=
  match aoptInt lo, aoptInt hi, aoptInt mx with
  | some l, some hh, some m =>
    match P.underlying t, x with
    | some .string, .str s =>
      match m with
      | none => aboundsK s.length s.length l hh fun a b => K (.str ((s.take b).drop a))
      | some _ => none
    | some (.slice e), .sl base len cap ex =>
      match sizeA P e with
      | some sz =>
        match m, hh with
        | none, _ =>
          aboundsK len (capOf len cap ex) l hh fun a b => K (.sl (base.map fun (i, o) => (i, o + a * sz)) (b - a) (roomOf len cap a hh.isNone b ex) ex)
        | some c, some _ =>
          if 0 ≤ c ∧ c ≤ (capOf len cap ex : Int) ∧ sureNN base len ex = true then
            aboundsK len c.toNat l hh fun a b => K (.sl (base.map fun (i, o) => (i, o + a * sz)) (b - a) (c.toNat - a) true)
          else none
        | some _, none => none
      | none => none
    | some (.array n e), .ptr (some (i, o)) =>
      match sizeA P e, m with
      | some sz, none =>
        aboundsK n n l hh fun a b => K (.sl (some (i, o + a * sz)) (b - a) (n - a) true)
      | _, _ => none
    | _, _ => none
  | _, _, _ => none

def afill (place : Nat → Option (Nat × Nat)) : List AV → List (Nat × AV) → Option (List AV)
  | cs, [] => some cs
  | cs, (i, v) :: r =>
    match place i, v.cells with
    | some (off, sz), some xs => if xs.length = sz ∧ off + sz ≤ cs.length then afill place (putCells cs off xs) r else none
    | _, _ => none

def abuild (P : Program) (t : TypeId) (parts : List (Nat × AV)) : Option AV :=
  match zeroA P t with
  | none => none
  | some z =>
    match z.cells, P.underlying t with
    | some zc, some (.struct fs) =>
      if (fs.toList.all fun f => (sizeA P f.type).isSome) = true then (afill (fun i => (fs[i]?).bind fun f => (sizeA P f.type).map fun n => (f.offset, n)) zc parts).map .agg else none
    | some zc, some (.array _ e) =>
      match sizeA P e with
      | some sz => (afill (fun i => some (i * sz, sz)) zc parts).map .agg
      | none => none
    | _, _ => none

def abuildSlice (P : Program) (h : AHeap) (t : TypeId) (len : Nat) (parts : List (Nat × AV)) : Option (AV × AHeap) :=
  match sliceElem P t with
  | none => none
  | some e =>
    match sizeA P e, zeroA P e with
    | some sz, some z =>
      match z.cells with
      | some zc =>
        if zc.length = sz ∧ 0 < sz ∧ len * sz ≤ 16777216 then
          (afill (fun i => some (i * sz, sz)) (zrep len zc) parts).map fun cs => (.sl (some (h.length, 0)) len 0 false, h ++ [.cells cs sz .own none])
        else none
      | none => none
    | _, _ => none

def abox (P : Program) (h : AHeap) (t : TypeId) (v : AV) : Option (AV × AHeap) :=
  match v.cells, sizeA P t with
  | some xs, some n => some (.ptr (some (h.length, 0)), h ++ [.cells xs n .own none])
  | _, _ => none

def aalloc (P : Program) (h : AHeap) (t : TypeId) : Option (AV × AHeap) :=
  match zeroA P t with
  | some z => abox P h t z
  | none => none

/-- The same operand, surely. -/
def opSame : Operand → Operand → Bool
  | .tmp a, .tmp b => a == b
  | .const (.int k a), .const (.int k' b) => decide (k = k') && decide (a = b)
  | _, _ => false

def amakeSlice (P : Program) (h : AHeap) (t : TypeId) (l c : AV) (same : Bool) : Option (AV × AHeap) :=
  match sliceElem P t, l, c with
  | some e, .int _ l, .int _ c =>
    match sizeA P e, bytesA P e, zeroA P e with
    | some sz, some by_, some z =>
      match z.cells with
      | some zc =>
        if zc.length = sz ∧ 0 < sz ∧ 0 ≤ l ∧ l ≤ c ∧ c ≤ 70368744177664 ∧ (by_ : Int) * c ≤ 281474976710656 then
          some (.sl (some (h.length, 0)) l.toNat (match same with | true => 0 | false => c.toNat) (!same), h ++ [.cells (zrep c.toNat zc) sz .own none])
        else none
      | none => none
    | _, _, _ => none
  | _, _, _ => none

def amakeSliceK {R : Type} (P : Program) (h : AHeap) (t : TypeId) (l c : AV) (same : Bool) (K : AV → AHeap → Option R) : Option R :=
  match sliceElem P t, l, c with
  | some e, .int _ l, .int _ c =>
    match sizeA P e, bytesA P e, zeroA P e with
    | some sz, some by_, some z =>
      match z.cells with
      | some zc =>
        if zc.length = sz ∧ 0 < sz ∧ 0 ≤ l ∧ l ≤ c ∧ c ≤ 70368744177664 ∧ (by_ : Int) * c ≤ 281474976710656 then
          K (.sl (some (h.length, 0)) l.toNat (match same with | true => 0 | false => c.toNat) (!same)) (h ++ [.cells (zrep c.toNat zc) sz .own none])
        else none
      | none => none
    | _, _, _ => none
  | _, _, _ => none

/-- Is what append is given a make's length? -/
def zerosOf (P : Program) : Option TypeId → Option Bool
  | some t => match P.underlying t with
    | some (.int _) => some true
    | some _ => some false
    | none => none
  | none => some false

/-- What append is given, as cells, and how many elements. -/
def aSrc (P : Program) (h : AHeap) (e : TypeId) (sz by_ : Nat) (xt : Option TypeId) (x : AV) : Option (Nat × List AV) :=
  match zerosOf P xt, x with
  | some true, .int _ l =>
    match zeroA P e with
    | some z => match z.cells with
      | some zc => if zc.length = sz ∧ 0 ≤ l ∧ l ≤ 70368744177664 ∧ l * (by_ : Int) ≤ 281474976710656 then some (l.toNat, zrep l.toNat zc) else none
      | none => none
    | none => none
  | some false, .sl none n _ _ => if n = 0 then some (0, []) else none
  | some false, .sl (some (i, o)) n _ _ => (cellsAt h i o (n * sz)).map fun cs => (n, cs)
  | some false, .str s => if sz = 1 then some (s.length, s.map fun b => .int .u8 b.toNat) else none
  | _, _ => none

def aSrcK {R : Type} (P : Program) (h : AHeap) (e : TypeId) (sz by_ : Nat) (xt : Option TypeId) (x : AV) (K : Nat → List AV → Option R) : Option R :=
  match zerosOf P xt, x with
  | some true, .int _ l =>
    match zeroA P e with
    | some z => match z.cells with
      | some zc => if zc.length = sz ∧ 0 ≤ l ∧ l ≤ 70368744177664 ∧ l * (by_ : Int) ≤ 281474976710656 then K l.toNat (zrep l.toNat zc) else none
      | none => none
    | none => none
  | some false, .sl none n _ _ => if n = 0 then K 0 [] else none
  | some false, .sl (some (i, o)) n _ _ => cellsAtK h i o (n * sz) fun cs => K n cs
  | some false, .str s => if sz = 1 then K s.length (s.map fun b => .int .u8 b.toNat) else none
  | _, _ => none

/-- Behind a slice that is filled: a new row; the old one is read alone from now on. -/
def agrowK {R : Type} (h : AHeap) (i o len cap sz n : Nat) (new old : List AV) (K : AV → AHeap → Option R) : Option R :=
  match h[i]? with
  | some (.cells vs e' .own par) =>
    if cap = 0 ∧ o + len * sz = vs.length ∧ (0 < n ∨ o = 0) ∧ e' = sz ∧ new.all AV.isCell = true then
      K (.sl (some (h.length, 0)) (len + n) 0 false) ((killp h par).set i (.cells vs e' .ro none) ++ [.cells (old ++ new) sz .own (some i)])
    else none
  | _ => none

def aappendK {R : Type} (P : Program) (h : AHeap) (argTypes : List TypeId) (s x : AV) (K : AV → AHeap → Option R) : Option R :=
  match (argTypes[0]?).bind (sliceElem P), s with
  | some e, .sl base len cap ex =>
    match sizeA P e, bytesA P e with
    | some (sz' + 1), some by_ =>
      aSrcK P h e (sz' + 1) by_ (argTypes[1]?) x fun n new =>
        if (2 * (len + n) + 200) * by_ ≤ 281474976710656 ∧ (zcells P e).map List.length = some (sz' + 1) ∧ len + n ≤ 70368744177664 then
          match base with
          | none => if len = 0 ∧ capOf len cap ex = 0 then K (.sl (some (h.length, 0)) n 0 false) (h ++ [.cells new (sz' + 1) .own none]) else none
          | some (i, o) =>
            match ex with
            | true =>
              if cap = 0 then (if len = 0 then K (.sl (some (h.length, 0)) n 0 false) (h ++ [.cells new (sz' + 1) .own none]) else none)
              else if len + n ≤ cap then
                (if n = 0 then K (.sl (some (i, o)) (len + n) cap true) h else putAtK h i (o + len * (sz' + 1)) new fun h' => K (.sl (some (i, o)) (len + n) cap true) h')
              else cellsAtK h i o (len * (sz' + 1)) fun old => K (.sl (some (h.length, 0)) (len + n) 0 false) (h ++ [.cells (old ++ new) (sz' + 1) .own none])
            | false =>
              if cap = 0 then cellsAtK h i o (len * (sz' + 1)) fun old => agrowK h i o len cap (sz' + 1) n new old K
              else if n ≤ cap then
                (if n = 0 then K (.sl (some (i, o)) (len + n) cap false) h else putAtK h i (o + len * (sz' + 1)) new fun h' => K (.sl (some (i, o)) (len + n) (cap - n) false) h')
              else none
        else none
    | _, _ => none
  | _, _ => none

def aappend (P : Program) (h : AHeap) (argTypes : List TypeId) (s x : AV) : Option (AV × AHeap) :=
  match (argTypes[0]?).bind (sliceElem P), s with
  | some e, .sl base len cap ex =>
    match sizeA P e, bytesA P e with
    | some (sz' + 1), some by_ =>
      (aSrc P h e (sz' + 1) by_ (argTypes[1]?) x).bind fun (n, new) =>
        if (2 * (len + n) + 200) * by_ ≤ 281474976710656 ∧ (zcells P e).map List.length = some (sz' + 1) ∧ len + n ≤ 70368744177664 then
          match base with
          | none => if len = 0 ∧ capOf len cap ex = 0 then some (.sl (some (h.length, 0)) n 0 false, h ++ [.cells new (sz' + 1) .own none]) else none
          | some (i, o) =>
            match ex with
            | true =>
              if cap = 0 then (if len = 0 then some (.sl (some (h.length, 0)) n 0 false, h ++ [.cells new (sz' + 1) .own none]) else none)
              else if len + n ≤ cap then
                (if n = 0 then some (.sl (some (i, o)) (len + n) cap true, h) else (putAt h i (o + len * (sz' + 1)) new).map fun h' => (.sl (some (i, o)) (len + n) cap true, h'))
              else (cellsAt h i o (len * (sz' + 1))).map fun old => (.sl (some (h.length, 0)) (len + n) 0 false, h ++ [.cells (old ++ new) (sz' + 1) .own none])
            | false =>
              if cap = 0 then (cellsAt h i o (len * (sz' + 1))).bind fun old => agrowK h i o len cap (sz' + 1) n new old fun v h => some (v, h)
              else if n ≤ cap then
                (if n = 0 then some (.sl (some (i, o)) (len + n) cap false, h) else (putAt h i (o + len * (sz' + 1)) new).map fun h' => (.sl (some (i, o)) (len + n) (cap - n) false, h'))
              else none
        else none
    | _, _ => none
  | _, _ => none

def acopyTo (h : AHeap) (base : Option (Nat × Nat)) (dl sl : Nat) (cs : List AV) : Option (AV × AHeap) :=
  if cs.length = 0 then some (.int .i64 (Nat.min sl dl), h) else
  match base with
  | some (i, o) => if 0 < dl then (putAt h i o cs).map fun h' => (.int .i64 (Nat.min sl dl), h') else none
  | none => none

def acopyToK {R : Type} (h : AHeap) (base : Option (Nat × Nat)) (dl sl : Nat) (cs : List AV) (K : AV → AHeap → Option R) : Option R :=
  if cs.length = 0 then K (.int .i64 (Nat.min sl dl)) h else
  match base with
  | some (i, o) => if 0 < dl then putAtK h i o cs fun h' => K (.int .i64 (Nat.min sl dl)) h' else none
  | none => none

def acopy (P : Program) (h : AHeap) (argTypes : List TypeId) (dst src : AV) : Option (AV × AHeap) :=
  match (argTypes[0]?).bind (sliceElem P), dst with
  | some e, .sl base dl _ _ =>
    match sizeA P e with
    | some sz =>
      match src with
      | .sl none n _ _ => if n = 0 then acopyTo h base dl 0 [] else none
      | .sl (some (i, o)) n _ _ => if n = 0 then acopyTo h base dl 0 [] else (cellsAt h i o (Nat.min n dl * sz)).bind fun cs => acopyTo h base dl n cs
      | .str s => if sz = 1 then acopyTo h base dl s.length ((s.take (Nat.min s.length dl)).map fun b => .int .u8 b.toNat) else none
      | _ => none
    | none => none
  | _, _ => none

def acopyK {R : Type} (P : Program) (h : AHeap) (argTypes : List TypeId) (dst src : AV) (K : AV → AHeap → Option R) : Option R :=
  match (argTypes[0]?).bind (sliceElem P), dst with
  | some e, .sl base dl _ _ =>
    match sizeA P e with
    | some sz =>
      match src with
      | .sl none n _ _ => if n = 0 then acopyToK h base dl 0 [] K else none
      | .sl (some (i, o)) n _ _ => if n = 0 then acopyToK h base dl 0 [] K else cellsAtK h i o (Nat.min n dl * sz) fun cs => acopyToK h base dl n cs K
      | .str s => if sz = 1 then acopyToK h base dl s.length ((s.take (Nat.min s.length dl)).map fun b => .int .u8 b.toNat) K else none
      | _ => none
    | none => none
  | _, _ => none

def alen (P : Program) (h : AHeap) (t : TypeId) (x : AV) : Option AV :=
  match P.underlying t, x with
  | some .string, .str s => some (.int .i64 s.length)
  | some (.array n _), _ => some (.int .i64 n)
  | some (.slice _), .sl _ n _ _ => some (.int .i64 n)
  | some (.map _ _), .map none => some (.int .i64 0)
  | some (.map _ _), .map (some r) =>
    match h[r]? with
    | some (.mp es _) => some (.int .i64 es.length)
    | _ => none
  | _, _ => none

def acap (P : Program) (t : TypeId) (x : AV) : Option AV :=
  match P.underlying t, x with
  | some (.array n _), _ => some (.int .i64 n)
  | some (.slice _), .sl none _ c _ => some (.int .i64 c)
  | some (.slice _), .sl (some _) _ c true => some (.int .i64 c)
  | _, _ => none

def aclear (P : Program) (h : AHeap) (t : TypeId) (x : AV) : Option AHeap :=
  match P.underlying t, x with
  | some (.slice _), .sl none _ _ _ => some h
  | some (.slice e), .sl (some (i, o)) n _ _ =>
    if n = 0 then some h else
    match sizeA P e, zeroA P e with
    | some sz, some z => match z.cells with
      | some zc => if zc.length = sz ∧ 0 < sz then putAt h i o (zrep n zc) else none
      | none => none
    | _, _ => none
  | _, _ => none

def aclearK {R : Type} (P : Program) (h : AHeap) (t : TypeId) (x : AV) (K : AHeap → Option R) : Option R :=
  match P.underlying t, x with
  | some (.slice _), .sl none _ _ _ => K h
  | some (.slice e), .sl (some (i, o)) n _ _ =>
    if n = 0 then K h else
    match sizeA P e, zeroA P e with
    | some sz, some z => match z.cells with
      | some zc => if zc.length = sz ∧ 0 < sz then putAtK h i o (zrep n zc) K else none
      | none => none
    | _, _ => none
  | _, _ => none

/-! ### Numbers, texts -/

def abits (k : IntKind) (f : BitVec k.bits → BitVec k.bits → BitVec k.bits) (a b : Int) : Int :=
  k.wrap (f (BitVec.ofInt k.bits a) (BitVec.ofInt k.bits b)).toNat

def aint2 (op : BinOp) (k : IntKind) (a b : Int) : Option AV :=
  match op with
  | .add => some (.int k (k.wrap (a + b)))
  | .sub => some (.int k (k.wrap (a - b)))
  | .mul => some (.int k (k.wrap (a * b)))
  | .quo => if b = 0 then none else some (.int k (k.wrap (a.tdiv b)))
  | .rem => if b = 0 then none else some (.int k (a.tmod b))
  | .and => some (.int k (abits k (· &&& ·) a b))
  | .or => some (.int k (abits k (· ||| ·) a b))
  | .xor => some (.int k (abits k (· ^^^ ·) a b))
  | .andNot => some (.int k (abits k (fun x y => x &&& ~~~y) a b))
  | .eql => some (.bool (a == b))
  | .neq => some (.bool (a != b))
  | .lss => some (.bool (a < b))
  | .leq => some (.bool (a ≤ b))
  | .gtr => some (.bool (a > b))
  | .geq => some (.bool (a ≥ b))
  | _ => none

def aeqFields (P : Program) (eq : TypeId → AV → AV → Option Bool) (xs ys : List AV) : List Field → Option Bool
  | [] => some true
  | f :: fs =>
    if f.name = "_" then aeqFields P eq xs ys fs else
    (apart P f.type xs f.offset).bind fun a => (apart P f.type ys f.offset).bind fun b =>
      (eq f.type a b).bind fun r => (aeqFields P eq xs ys fs).map fun s => r && s

def aeqItems (P : Program) (eq : TypeId → AV → AV → Option Bool) (e : TypeId) (sz : Nat) (xs ys : List AV) : Nat → Nat → Option Bool
  | 0, _ => some true
  | n + 1, i =>
    (apart P e xs (i * sz)).bind fun a => (apart P e ys (i * sz)).bind fun b =>
      (eq e a b).bind fun r => (aeqItems P eq e sz xs ys n (i + 1)).map fun s => r && s

/-- Go's ==, of a type; none: not told. -/
def aeqIn (P : Program) : Nat → TypeId → AV → AV → Option Bool
  | 0, _, _, _ => none
  | d + 1, t, x, y =>
    match P.underlying t, x, y with
    | some .bool, .bool a, .bool b => some (a == b)
    | some (.int _), .int k a, .int k' b => if k = k' then some (a == b) else none
    | some .string, .str a, .str b => some (decide (a = b))
    | some (.pointer _), .ptr none, .ptr b => some b.isNone
    | some (.pointer _), .ptr (some _), .ptr none => some false
    | some (.slice _), .sl none _ _ _, .sl none _ _ _ => some true
    | some (.slice _), .sl none _ _ _, .sl (some _) l _ ex => match ex with | true => some false | false => if 0 < l then some false else none
    | some (.slice _), .sl (some _) l _ ex, .sl none _ _ _ => match ex with | true => some false | false => if 0 < l then some false else none
    | some (.map _ _), .map none, .map b => some b.isNone
    | some (.map _ _), .map (some _), .map none => some false
    | some (.func _ _ _), .nilFn, .nilFn => some true
    | some (.func _ _ _), .nilFn, .fn _ _ => some false
    | some (.func _ _ _), .fn _ _, .nilFn => some false
    | some (.struct fs), .agg xs, .agg ys => if P.stoodInHeld t = true then none else aeqFields P (aeqIn P d) xs ys fs.toList
    | some (.array n e), .agg xs, .agg ys =>
      match sizeA P e with
      | some sz => aeqItems P (aeqIn P d) e sz xs ys n 0
      | none => none
    | _, _, _ => none

def abin (P : Program) (op : BinOp) (xt : TypeId) (x y : AV) : Option AV :=
  match x, y with
  | .int k a, .int k' b =>
    match op with
    | .shl => if b < 0 then none else some (.int k (k.wrap (a * 2 ^ (min b.toNat k.bits))))
    | .shr => if b < 0 then none else some (.int k (a.fdiv (2 ^ (min b.toNat k.bits))))
    | _ => if k = k' then aint2 op k a b else none
  | .str a, .str b =>
    match op with
    | .add => if a.length + b.length ≤ 140737488355328 then some (.str (a ++ b)) else none
    | .eql => some (.bool (decide (a = b)))
    | .neq => some (.bool (!decide (a = b)))
    | _ => none
  | .agg a, .agg b =>
    if P.eqGuardType P.depth xt = true then none else
    match op with
    | .eql => (aeqIn P 10000 xt (.agg a) (.agg b)).map .bool
    | .neq => (aeqIn P 10000 xt (.agg a) (.agg b)).map fun r => .bool (!r)
    | _ => none
  | x, y =>
    match op with
    | .eql => (aeqIn P 10000 xt x y).map .bool
    | .neq => (aeqIn P 10000 xt x y).map fun r => .bool (!r)
    | _ => none

def aint2K {R : Type} (op : BinOp) (k : IntKind) (a b : Int) (K : AV → Option R) : Option R :=
  match op with
  | .quo => if b = 0 then none else K (.int k (k.wrap (a.tdiv b)))
  | .rem => if b = 0 then none else K (.int k (a.tmod b))
  | op => (aint2 op k a b).bind K

def abinK {R : Type} (P : Program) (op : BinOp) (xt : TypeId) (x y : AV) (K : AV → Option R) : Option R :=
  match x, y with
  | .int k a, .int k' b =>
    match op with
    | .shl => if b < 0 then none else K (.int k (k.wrap (a * 2 ^ (min b.toNat k.bits))))
    | .shr => if b < 0 then none else K (.int k (a.fdiv (2 ^ (min b.toNat k.bits))))
    | op => if k = k' then aint2K op k a b K else none
  | .str a, .str b =>
    match op with
    | .add => if a.length + b.length ≤ 140737488355328 then K (.str (a ++ b)) else none
    | op => (abin P op xt (.str a) (.str b)).bind K
  | x, y => (abin P op xt x y).bind K

def aun (op : UnOp) (x : AV) : Option AV :=
  match op, x with
  | .neg, .int k n => some (.int k (k.wrap (0 - n)))
  | .xor, .int k n => some (.int k (abits k (· ^^^ ·) (if k.signed then -1 else k.max) n))
  | .not, .bool b => some (.bool !b)
  | _, _ => none

def byteOf : AV → Option UInt8
  | .int .u8 n => some (UInt8.ofNat n.toNat)
  | _ => none

def isByte : AV → Bool
  | .int .u8 _ => true
  | _ => false
def byteD : AV → UInt8
  | .int _ n => UInt8.ofNat n.toNat
  | _ => 0

def aconv (P : Program) (h : AHeap) (src dst : TypeId) (x : AV) : Option (AV × AHeap) :=
  match P.underlying src, P.underlying dst, x with
  | some (.int _), some (.int k), .int _ n => some (.int k (k.wrap n), h)
  | some .string, some .string, .str s => some (.str s, h)
  | some .string, some (.slice e), .str s =>
    match P.underlying e with
    | some (.int .u8) => if 0 < s.length then some (.sl (some (h.length, 0)) s.length 0 false, h ++ [.cells (s.map fun b => .int .u8 b.toNat) 1 .own none]) else none
    | _ => none
  | some (.slice _), some (.slice e), .sl (some (i, o)) n c ex =>
    match P.underlying e, h[i]? with
    | some (.int .u8), some (.cells vs esz .own none) => if src = dst ∧ 0 < n ∧ 0 < vs.length then some (.sl (some (i, o)) n c ex, h.set i (.cells vs esz .ro none)) else none
    | _, _ => none
  | some (.slice e), some .string, .sl base n _ _ =>
    match P.underlying e, base with
    | some (.int .u8), none => if n = 0 then some (.str [], h) else none
    | some (.int .u8), some (i, o) => (cellsAt h i o n).bind fun cs => if cs.all isByte = true then some (.str (cs.map byteD), h) else none
    | _, _ => none
  | _, _, _ => none

def aconvK {R : Type} (P : Program) (h : AHeap) (src dst : TypeId) (x : AV) (K : AV → AHeap → Option R) : Option R :=
  match P.underlying src, P.underlying dst, x with
  | some (.int _), some (.int k), .int _ n => K (.int k (k.wrap n)) h
  | some .string, some .string, .str s => K (.str s) h
  | some .string, some (.slice e), .str s =>
    match P.underlying e with
    | some (.int .u8) => if 0 < s.length then K (.sl (some (h.length, 0)) s.length 0 false) (h ++ [.cells (s.map fun b => .int .u8 b.toNat) 1 .own none]) else none
    | _ => none
  | some (.slice _), some (.slice e), .sl (some (i, o)) n c ex =>
    match P.underlying e, h[i]? with
    | some (.int .u8), some (.cells vs esz .own none) => if src = dst ∧ 0 < n ∧ 0 < vs.length then K (.sl (some (i, o)) n c ex) (h.set i (.cells vs esz .ro none)) else none
    | _, _ => none
  | some (.slice e), some .string, .sl base n _ _ =>
    match P.underlying e, base with
    | some (.int .u8), none => if n = 0 then K (.str []) h else none
    | some (.int .u8), some (i, o) => cellsAtK h i o n fun cs => if cs.all isByte = true then K (.str (cs.map byteD)) h else none
    | _, _ => none
  | _, _, _ => none

/-! ### Maps -/

def mapTypes (P : Program) (t : TypeId) : Option (TypeId × TypeId) :=
  match P.underlying t with
  | some (.map k e) => some (k, e)
  | _ => none

def akeyOk (P : Program) : Nat → TypeId → AV → Bool
  | 0, _, _ => false
  | d + 1, t, v =>
    match P.underlying t, v with
    | some .bool, .bool _ => true
    | some (.int _), .int _ _ => true
    | some .string, .str _ => true
    | some (.array len e), .agg cs =>
      match sizeA P e with
      | some sz => (List.range len).all fun i => match apart P e cs (i * sz) with | some x => akeyOk P d e x | none => false
      | none => false
    | some (.struct fs), .agg cs => fs.toList.all fun f => match apart P f.type cs f.offset with | some x => akeyOk P d f.type x | none => false
    | _, _ => false

def afind (P : Program) (kt : TypeId) (k : AV) : List (AV × AV × Nat) → Nat → Option (Option (Nat × AV))
  | [], _ => some none
  | e :: r, i => (aeqIn P 10000 kt k e.1).bind fun b => if b = true then some (some (i, e.2.1)) else afind P kt k r (i + 1)

def afindK {R : Type} (P : Program) (kt : TypeId) (k : AV) (K : Option (Nat × AV) → Option R) : List (AV × AV × Nat) → Nat → Option R
  | [], _ => K none
  | e :: r, i => (aeqIn P 10000 kt k e.1).bind fun b => if b = true then K (some (i, e.2.1)) else afindK P kt k K r (i + 1)

def entriesAt (h : AHeap) (r : Nat) : Option (List (AV × AV × Nat) × Nat) :=
  match h[r]? with
  | some (.mp es c) => some (es, c)
  | _ => none

def mapList (h : AHeap) : AV → Option (List (AV × AV × Nat))
  | .map none => some []
  | .map (some r) => (entriesAt h r).map fun x => x.1
  | _ => none

def alookup (P : Program) (h : AHeap) (t : TypeId) (m k : AV) (ok : Bool) : Option AV :=
  match mapTypes P t with
  | none => none
  | some (kt, et) =>
    (mapList h m).bind fun es =>
    if akeyOk P 10000 kt k = true then
      (afind P kt k es 0).bind fun
        | some (_, v) => some (if ok then .tup [v, .bool true] else v)
        | none => (zeroA P et).map fun z => if ok then .tup [z, .bool false] else z
    else none

def alookupK {R : Type} (P : Program) (h : AHeap) (t : TypeId) (m k : AV) (ok : Bool) (K : AV → Option R) : Option R :=
  match mapTypes P t with
  | none => none
  | some (kt, et) =>
    (mapList h m).bind fun es =>
    if akeyOk P 10000 kt k = true then
      afindK P kt k (fun
        | some (_, v) => K (if ok then .tup [v, .bool true] else v)
        | none => (zeroA P et).bind fun z => K (if ok then .tup [z, .bool false] else z)) es 0
    else none

/-- A number, a bool, a text. -/
def AV.plain : AV → Bool
  | .bool _ => true
  | .int _ _ => true
  | .str _ => true
  | _ => false
/-- Such a one, or a row of them. -/
def AV.flat : AV → Bool
  | .agg l => l.all AV.plain
  | v => v.plain

/-- The entry of a key, made anew with what a new one holds; and its number. -/
def aenter (P : Program) (h : AHeap) (t : TypeId) (r : Nat) (k : AV) (old : AV → AV) (new : Option AV) : Option (AV × Nat × AHeap) :=
  match mapTypes P t, entriesAt h r with
  | some (kt, _), some (es, c) =>
    if akeyOk P 10000 kt k = true then
      (afind P kt k es 0).bind fun
        | some (i, v) =>
          match es[i]? with
          | some e => if AV.beq e.1 k = true ∧ k.flat = true then some (v, e.2.2, h.set r (.mp (es.set i (k, old e.2.1, e.2.2)) c)) else none
          | none => none
        | none => new.map fun z => (z, c, h.set r (.mp (es ++ [(k, z, c)]) (c + 1)))
    else none
  | _, _ => none

def aenterK {R : Type} (P : Program) (h : AHeap) (t : TypeId) (r : Nat) (k : AV) (old : AV → AV) (new : Option AV) (K : AV → Nat → AHeap → Option R) : Option R :=
  match mapTypes P t, entriesAt h r with
  | some (kt, _), some (es, c) =>
    if akeyOk P 10000 kt k = true then
      afindK P kt k (fun
        | some (i, v) =>
          match es[i]? with
          | some e => if AV.beq e.1 k = true ∧ k.flat = true then K v e.2.2 (h.set r (.mp (es.set i (k, old e.2.1, e.2.2)) c)) else none
          | none => none
        | none => new.bind fun z => K z c (h.set r (.mp (es ++ [(k, z, c)]) (c + 1)))) es 0
    else none
  | _, _ => none

def amapUpdate (P : Program) (h : AHeap) (t : TypeId) (m k v : AV) : Option AHeap :=
  match m with
  | .map (some r) => (aenter P h t r k (fun _ => v) (some v)).map fun x => x.2.2
  | _ => none

def amapEntry (P : Program) (h : AHeap) (t : TypeId) (m k : AV) : Option (AV × AHeap) :=
  match m with
  | .map (some r) => (aenter P h t r k id ((mapTypes P t).bind fun x => zeroA P x.2)).map fun x => (.tup [x.1, .int .i64 x.2.1], x.2.2)
  | _ => none

def aentryStore (h : AHeap) (m st v : AV) : Option AHeap :=
  match m, st with
  | .map (some r), .int _ b =>
    match entriesAt h r with
    | some (es, c) =>
      (es.findIdx? fun e => ((e.2.2 : Int) == b)).bind fun i => (es[i]?).map fun e => h.set r (.mp (es.set i (e.1, v, e.2.2)) c)
    | none => none
  | _, _ => none

def adelete (P : Program) (h : AHeap) (t : TypeId) (m k : AV) : Option AHeap :=
  match mapTypes P t with
  | none => none
  | some (kt, _) =>
    if akeyOk P 10000 kt k = true then
      match m with
      | .map none => some h
      | .map (some r) =>
        match entriesAt h r with
        | some (es, c) =>
          (afind P kt k es 0).map fun
            | some (i, _) => h.set r (.mp (es.eraseIdx i) c)
            | none => h.set r (.mp es c)
        | none => none
      | _ => none
    else none

def amapUpdateK {R : Type} (P : Program) (h : AHeap) (t : TypeId) (m k v : AV) (K : AHeap → Option R) : Option R :=
  match m with
  | .map (some r) => aenterK P h t r k (fun _ => v) (some v) fun _ _ h' => K h'
  | _ => none

def amapEntryK {R : Type} (P : Program) (h : AHeap) (t : TypeId) (m k : AV) (K : AV → AHeap → Option R) : Option R :=
  match m with
  | .map (some r) => aenterK P h t r k id ((mapTypes P t).bind fun x => zeroA P x.2) fun v b h' => K (.tup [v, .int .i64 b]) h'
  | _ => none

def adeleteK {R : Type} (P : Program) (h : AHeap) (t : TypeId) (m k : AV) (K : AHeap → Option R) : Option R :=
  match mapTypes P t with
  | none => none
  | some (kt, _) =>
    if akeyOk P 10000 kt k = true then
      match m with
      | .map none => K h
      | .map (some r) =>
        match entriesAt h r with
        | some (es, c) =>
          afindK P kt k (fun
            | some (i, _) => K (h.set r (.mp (es.eraseIdx i) c))
            | none => K (h.set r (.mp es c))) es 0
        | none => none
      | _ => none
    else none

/-! ### Operations -/

def aev (env : Env) : Operand → AV
  | .tmp t => env.getD t (.tup [])
  | .const v => ofV v
  | .global _ => .any
  | .func f => .fn (.func f) []

def aput (env : Env) : Option Tmp → AV → Env
  | none, _ => env
  | some d, v => env.set d v

def amin2 (mx : Bool) : AV → AV → Option AV
  | .int k x, .int k' y => if k = k' then some (.int k (if mx then (if y > x then y else x) else (if y < x then y else x))) else none
  | _, _ => none

def afold2 (f : AV → AV → Option AV) : AV → List AV → Option AV
  | x, [] => some x
  | x, y :: r => (f x y).bind fun z => afold2 f z r

/-- One operation: K goes on with what it yields and the heap behind it; C makes a call. The plain form, for proofs. -/
def aop0 {R : Type} (P : Program) (h : AHeap) (env : Env) (o : Oper) (K : AV → AHeap → Option R) (C : Fn → List AV → Option R) : Option R :=
  match o.op with
  | .move x => K (aev env x) h
  | .assign x => K (aev env x) h
  | .pick c a b =>
    match aev env c with
    | .bool t => if t = true then K (aev env a) h else K (aev env b) h
    | _ => none
  | .alloc t => (aalloc P h t).bind fun (x : AV × AHeap) => K x.1 x.2
  | .box t v => (abox P h t (aev env v)).bind fun (x : AV × AHeap) => K x.1 x.2
  | .build t ps => (abuild P t (ps.toList.map fun p => (p.1, aev env p.2))).bind fun v => K v h
  | .buildSlice t n ps => (abuildSlice P h t n (ps.toList.map fun p => (p.1, aev env p.2))).bind fun (x : AV × AHeap) => K x.1 x.2
  | .load t a => (aload P h t (aev env a)).bind fun v => K v h
  | .store t a x => (astore P h t (aev env a) (aev env x)).bind fun h' => K (.tup []) h'
  | .nilCheck x =>
    match aev env x with
    | .ptr (some a) => K (.ptr (some a)) h
    | .fn (.func f) c => K (.fn (.func f) c) h
    | .fn (.yield f) c => K (.fn (.yield f) c) h
    | _ => none
  | .binOp op xt x y _ => (abin P op xt (aev env x) (aev env y)).bind fun v => K v h
  | .unOp op _ x => (aun op (aev env x)).bind fun v => K v h
  | .convert s d x => (aconv P h s d (aev env x)).bind fun (x : AV × AHeap) => K x.1 x.2
  | .sliceToArrayPointer arr x =>
    match P.underlying arr, aev env x with
    | some (.array n _), .sl (some (i, o)) len _ _ => if n ≤ len ∧ 0 < n then K (.ptr (some (i, o))) h else none
    | _, _ => none
  | .makeFunc fn first cap => if first.isEmpty then (match fn with | .func f => K (.fn (.func f) (cap.toList.map (aev env))) h | _ => none) else none
  | .makeMap _ r => match r with
    | none => K (.map (some h.length)) (h ++ [.mp [] 0])
    | some _ => none
  | .makeSlice t l c => (amakeSlice P h t (aev env l) (aev env c) (opSame l c)).bind fun (x : AV × AHeap) => K x.1 x.2
  | .slice t x lo hi mx => (aslice P t (aev env x) (lo.map (aev env)) (hi.map (aev env)) (mx.map (aev env))).bind fun v => K v h
  | .fieldAddr s x f => (afieldAddr P s (aev env x) f).bind fun v => K v h
  | .field xt x f => (afield P xt (aev env x) f).bind fun v => K v h
  | .indexAddr t x ix => (aindexAddr P t (aev env x) (aev env ix)).bind fun v => K v h
  | .index t x ix => (aindex P t (aev env x) (aev env ix)).bind fun v => K v h
  | .lookup t x ix ok => (alookup P h t (aev env x) (aev env ix) ok).bind fun v => K v h
  | .mapUpdate t m k x => (amapUpdate P h t (aev env m) (aev env k) (aev env x)).bind fun h' => K (.tup []) h'
  | .insert t m k x => (amapUpdate P h t (aev env m) (aev env k) (aev env x)).bind fun h' => K (.tup []) h'
  | .mapEntry t m k => (amapEntry P h t (aev env m) (aev env k)).bind fun (x : AV × AHeap) => K x.1 x.2
  | .entryStore _ m s x => (aentryStore h (aev env m) (aev env s) (aev env x)).bind fun h' => K (.tup []) h'
  | .extract t ix =>
    match aev env t with
    | .tup l => (l[ix]?).bind fun v => K v h
    | _ => none
  | .call c =>
    match c.callee with
    | .value f =>
      match aev env f with
      | .fn fn cap => C fn (c.args.toList.map (aev env) ++ cap)
      | _ => none
    | .builtin b =>
      match b, c.args.toList.map (aev env), c.argTypes.toList with
      | .append, [s, x], ts => (aappend P h ts s x).bind fun (x : AV × AHeap) => K x.1 x.2
      | .copy, [d, s], ts => (acopy P h ts d s).bind fun (x : AV × AHeap) => K x.1 x.2
      | .len, [x], [t] => (alen P h t x).bind fun v => K v h
      | .cap, [x], [t] => (acap P t x).bind fun v => K v h
      | .clear, [x], [t] => (aclear P h t x).bind fun h' => K (.tup []) h'
      | .delete, [m, k], t :: _ => (adelete P h t m k).bind fun h' => K (.tup []) h'
      | .min, x :: r, _ => (afold2 (amin2 false) x r).bind fun v => K v h
      | .max, x :: r, _ => (afold2 (amin2 true) x r).bind fun v => K v h
      | _, _, _ => none
    | .invoke _ _ => none
  | _ => none

/-- One operation: K goes on with what it yields and the heap behind it; C makes a call. -/
def aop {R : Type} (P : Program) (h : AHeap) (env : Env) (o : Oper) (K : AV → AHeap → Option R) (C : Fn → List AV → Option R) : Option R :=
  match o.op with
  | .move x => K (aev env x) h
  | .assign x => K (aev env x) h
  | .pick c a b =>
    match aev env c with
    | .bool t => if t = true then K (aev env a) h else K (aev env b) h
    | _ => none
  | .alloc t => (aalloc P h t).bind fun (x : AV × AHeap) => K x.1 x.2
  | .box t v => (abox P h t (aev env v)).bind fun (x : AV × AHeap) => K x.1 x.2
  | .build t ps => (abuild P t (ps.toList.map fun p => (p.1, aev env p.2))).bind fun v => K v h
  | .buildSlice t n ps => (abuildSlice P h t n (ps.toList.map fun p => (p.1, aev env p.2))).bind fun (x : AV × AHeap) => K x.1 x.2
  | .load t a => aloadK P h t (aev env a) fun v => K v h
  | .store t a x => astoreK P h t (aev env a) (aev env x) fun h' => K (.tup []) h'
  | .nilCheck x =>
    match aev env x with
    | .ptr (some a) => K (.ptr (some a)) h
    | .fn (.func f) c => K (.fn (.func f) c) h
    | .fn (.yield f) c => K (.fn (.yield f) c) h
    | _ => none
  | .binOp op xt x y _ => abinK P op xt (aev env x) (aev env y) fun v => K v h
  | .unOp op _ x => (aun op (aev env x)).bind fun v => K v h
  | .convert s d x => aconvK P h s d (aev env x) K
  | .sliceToArrayPointer arr x =>
    match P.underlying arr, aev env x with
    | some (.array n _), .sl (some (i, o)) len _ _ => if n ≤ len ∧ 0 < n then K (.ptr (some (i, o))) h else none
    | _, _ => none
  | .makeFunc fn first cap => if first.isEmpty then (match fn with | .func f => K (.fn (.func f) (cap.toList.map (aev env))) h | _ => none) else none
  | .makeMap _ r => match r with
    | none => K (.map (some h.length)) (h ++ [.mp [] 0])
    | some _ => none
  | .makeSlice t l c => amakeSliceK P h t (aev env l) (aev env c) (opSame l c) K
  | .slice t x lo hi mx => asliceK P t (aev env x) (lo.map (aev env)) (hi.map (aev env)) (mx.map (aev env)) fun v => K v h
  | .fieldAddr s x f => (afieldAddr P s (aev env x) f).bind fun v => K v h
  | .field xt x f => afieldK P xt (aev env x) f fun v => K v h
  | .indexAddr t x ix => aindexAddrK P t (aev env x) (aev env ix) fun v => K v h
  | .index t x ix => aindexK P t (aev env x) (aev env ix) fun v => K v h
  | .lookup t x ix ok => alookupK P h t (aev env x) (aev env ix) ok fun v => K v h
  | .mapUpdate t m k x => amapUpdateK P h t (aev env m) (aev env k) (aev env x) fun h' => K (.tup []) h'
  | .insert t m k x => amapUpdateK P h t (aev env m) (aev env k) (aev env x) fun h' => K (.tup []) h'
  | .mapEntry t m k => amapEntryK P h t (aev env m) (aev env k) K
  | .entryStore _ m s x => (aentryStore h (aev env m) (aev env s) (aev env x)).bind fun h' => K (.tup []) h'
  | .extract t ix =>
    match aev env t with
    | .tup l => (l[ix]?).bind fun v => K v h
    | _ => none
  | .call c =>
    match c.callee with
    | .value f =>
      match aev env f with
      | .fn fn cap => C fn (c.args.toList.map (aev env) ++ cap)
      | _ => none
    | .builtin b =>
      match b, c.args.toList.map (aev env), c.argTypes.toList with
      | .append, [s, x], ts => aappendK P h ts s x K
      | .copy, [d, s], ts => acopyK P h ts d s K
      | .len, [x], [t] => (alen P h t x).bind fun v => K v h
      | .cap, [x], [t] => (acap P t x).bind fun v => K v h
      | .clear, [x], [t] => aclearK P h t x fun h' => K (.tup []) h'
      | .delete, [m, k], t :: _ => adeleteK P h t m k fun h' => K (.tup []) h'
      | .min, x :: r, _ => (afold2 (amin2 false) x r).bind fun v => K v h
      | .max, x :: r, _ => (afold2 (amin2 true) x r).bind fun v => K v h
      | _, _, _ => none
    | .invoke _ _ => none
  | _ => none

/-- What calls do. -/
structure CallT where
  run : {R : Type} → Fn → List AV → AHeap → (AV → AHeap → Option R) → Option R
  nat : ∀ {R : Type} (f : Fn) (args : List AV) (h : AHeap) (K : AV → AHeap → Option R), run f args h K = (run f args h fun v h => some (v, h)).bind fun x => K x.1 x.2

def CallT.get (C : CallT) (f : Fn) (args : List AV) (h : AHeap) : Option (AV × AHeap) := C.run f args h fun v h => some (v, h)

/-- What a loop does. -/
structure LoopF where
  run : {R : Type} → Env → AHeap → (AEx → Env → AHeap → Option R) → Option R
  nat : ∀ {R : Type} (env : Env) (h : AHeap) (K : AEx → Env → AHeap → Option R), run env h K = (run env h fun e env h => some (e, env, h)).bind fun x => K x.1 x.2.1 x.2.2

def LoopF.get (C : LoopF) (env : Env) (h : AHeap) : Option (AEx × Env × AHeap) := C.run env h fun e env h => some (e, env, h)

/-- What a function does. -/
structure Ent where
  run : {R : Type} → List AV → AHeap → (AV → AHeap → Option R) → Option R
  nat : ∀ {R : Type} (args : List AV) (h : AHeap) (K : AV → AHeap → Option R), run args h K = (run args h fun v h => some (v, h)).bind fun x => K x.1 x.2

def Ent.get (C : Ent) (args : List AV) (h : AHeap) : Option (AV × AHeap) := C.run args h fun v h => some (v, h)

/-- One operation in its place: a call goes to CALL. -/
def aexec {R : Type} (P : Program) (CALL : CallT) (o : Oper) (env : Env) (h : AHeap) (K : AV → AHeap → Option R) : Option R :=
  aop P h env o K fun f args => CALL.run f args h K

/-- A guard, decided: T where the operation is wanted, F where it is not. The slot that was asked holds the answer then. -/
def aguard {R : Type} (ops : List Oper) (o : Oper) (env : Env) (T F : Env → Option R) : Option R :=
  match o.guard with
  | none => T env
  | some (j, want) =>
    match (ops[j]?).bind (·.dst) with
    | none => F env
    | some d =>
      match env[d]? with
      | some (.bool b) => if b = true then (if want then T (env.set d (.bool true)) else F (env.set d (.bool true))) else (if want then F (env.set d (.bool false)) else T (env.set d (.bool false)))
      | some (.tup []) => F env
      | _ => none

def aops {R : Type} (P : Program) (CALL : CallT) (ops : List Oper) : List Nat → Env → AHeap → (Env → AHeap → Option R) → Option R
  | [], env, h, K => K env h
  | i :: rest, env, h, K =>
    match ops[i]? with
    | none => none
    | some o =>
      aguard ops o env
        (fun env => aexec P CALL o env h fun v h' => aops P CALL ops rest (aput env o.dst v) h' K)
        (fun env => aops P CALL ops rest (aput env o.dst (.tup [])) h K)

/-! ### A region whose order is drawn: run in the order of the text; each look at memory must see the same at every moment at which it might be made -/

/-- May it change memory, or make some? -/
def heavy (P : Program) : Op → Bool
  | .convert s d _ => (match P.underlying s, P.underlying d with | some (.int _), some (.int _) => false | some (.slice _), some .string => false | _, _ => true)
  | .move _ | .assign _ | .pick .. | .build .. | .load .. | .nilCheck _ | .binOp .. | .unOp .. | .sliceToArrayPointer .. | .makeFunc .. | .slice .. | .fieldAddr .. | .field ..
  | .indexAddr .. | .index .. | .lookup .. | .extract .. => false
  | .call { callee := .builtin b, .. } => match b with | .len | .cap | .min | .max => false | _ => true
  | _ => true

/-- Is what it yields the same whatever memory holds? -/
def still (P : Program) : Op → Bool
  | .convert s d _ => (match P.underlying s, P.underlying d with | some (.int _), some (.int _) => true | _, _ => false)
  | .move _ | .assign _ | .pick .. | .build .. | .nilCheck _ | .binOp .. | .unOp .. | .sliceToArrayPointer .. | .makeFunc .. | .slice .. | .fieldAddr .. | .field ..
  | .indexAddr .. | .index .. | .extract .. => true
  | .call { callee := .builtin b, .. } => match b with | .cap | .min | .max => true | _ => false
  | _ => false

/-- Does it only add a block? -/
def adds : Op → Bool
  | .alloc _ | .box .. | .buildSlice .. | .makeSlice .. | .makeMap .. => true
  | _ => false

/-- Does it only add a block, of what stands in slots alone? -/
def late : Op → Bool
  | .alloc _ | .buildSlice .. => true
  | _ => false

/-- The edges that bind in whatever order. -/
def edgesOf (o : Oper) : List Edge := o.after.toList.filter fun e => match e.ground with | .textOnly _ | .gcOnly _ => false | _ => true

/-- The operations that must stand ahead of each, as bits. -/
def aheadOf (ops : List Oper) : List Nat :=
  ops.foldl (fun acc o => acc ++ [(edgesOf o).foldl (fun s e => s ||| 2 ^ e.on ||| acc.getD e.on 0) 0]) []

def ordered (an : List Nat) (i j : Nat) : Bool := (an.getD i 0).testBit j || (an.getD j 0).testBit i

/-- The slots that an operation names: what it reads; its guard's. -/
def namesRead (ops : List Oper) (o : Oper) : List Tmp :=
  (o.op.operands.toList.filterMap fun | .tmp t => some t | _ => none) ++ (match o.guard with | some (j, _) => ((ops[j]?).bind (·.dst)).toList | none => [])

/-- The later of both only adds a block; whoever waits for it waits for the earlier one too. -/
def passes (an : List Nat) (ops : List Oper) (i j : Nat) : Bool :=
  (match ops[max i j]? with | some o => late o.op | none => false) && (List.range ops.length).all fun k => !(an.getD k 0).testBit (max i j) || (an.getD k 0).testBit (min i j)

/-- What must hold of a drawn region, of so many slots: edges point backward and bind; each slot is written once; who writes a slot is ordered with whoever names it; who may change memory are in a row, or pass each other. -/
def drawOkA (P : Program) (ops : List Oper) : Bool :=
  let an := aheadOf ops
  ((ops.zipIdx.all fun (o, j) => o.after.toList.all fun e => decide (e.on < j) && (match e.ground with | .gcOnly _ => false | _ => true)) ||
    ((ops.zipIdx.all fun (o, j) => o.after.toList.all fun e => decide (e.on < ops.length) && (match e.ground with | .gcOnly _ => true | _ => decide (e.on < j))) &&
      (let L := Region.linearise .gc ops.toArray 0
       ops.zipIdx.all fun (o, j) => o.after.toList.all fun e => match e.ground with | .textOnly _ => true | _ => decide (L.idxOf e.on < L.idxOf j)))) &&
  (ops.zipIdx.all fun (o, j) => ops.zipIdx.all fun (o', i) => i == j ||
    ((match o.dst with | some d => decide (o'.dst ≠ some d) && (ordered an i j || !(namesRead ops o').contains d) | none => true) &&
      (ordered an i j || !(heavy P o.op && heavy P o'.op) || passes an ops i j)))

def drawOk (P : Program) (ops : List Oper) (n : Nat) : Bool := drawOkA P ops &&
  (ops.all fun o => match o.dst with | some d => decide (d < n) | none => true)

def alook (P : Program) (o : Oper) (env : Env) (h : AHeap) : Option AV := aop P h env o (fun v _ => some v) fun _ _ => none

/-- Is the look's answer this one? -/
def alookK {R : Type} (P : Program) (o : Oper) (env : Env) (h : AHeap) (v : AV) (K : Option R) : Option R := aop P h env o (fun u _ => if AV.beq u v = true then K else none) fun _ _ => none

def asame {R : Type} (x : Option AV) (v : AV) (K : Option R) : Option R := x.bind fun u => if AV.beq u v = true then K else none

/-- An operation as it was run: was it wanted? what did it yield? what stood in the slots, what lay in memory, ahead of it and behind it? -/
structure Rec where
  ran : Bool
  v : AV
  env : Env
  h : AHeap
  h' : AHeap

def adraw {R : Type} (P : Program) (CALL : CallT) (ops : List Oper) : List Nat → Env → AHeap → List Rec → (List Rec → Env → AHeap → Option R) → Option R
  | [], env, h, T, K => K T env h
  | i :: rest, env, h, T, K =>
    match ops[i]? with
    | none => none
    | some o =>
      aguard ops o env
        (fun env => aexec P CALL o env h fun v h' => adraw P CALL ops rest (aput env o.dst v) h' (T ++ [⟨true, v, env, h, h'⟩]) K)
        (fun env => adraw P CALL ops rest (aput env o.dst (.tup [])) h (T ++ [⟨false, .tup [], env, h, h⟩]) K)

/-- Who looks at memory, and who may change it or make some, the two in no order. -/
def unordered (P : Program) (ops : List Oper) : List (Nat × Nat) :=
  let an := aheadOf ops
  ops.zipIdx.flatMap fun (o, i) =>
    if (heavy P o.op || still P o.op) = true then [] else
    ops.zipIdx.filterMap fun (o', c) => if (heavy P o'.op && !ordered an i c && (decide (c < i) || !adds o'.op)) = true then some (i, c) else none

/-- What was looked at is looked at in each memory that there might be then. -/
def alooks {R : Type} (P : Program) (ops : List Oper) (T : List Rec) : List (Nat × Nat) → Option R → Option R
  | [], K => K
  | (i, c) :: l, K =>
    match T[i]?, T[c]?, ops[i]? with
    | some x, some y, some o =>
      if (x.ran && y.ran) = true then alookK P o x.env (if c < i then y.h else y.h') x.v (alooks P ops T l K) else alooks P ops T l K
    | _, _, _ => none

/-! ### Code -/

/-- A loop is told by the number of the first region in it. -/
def firstReg : Code → Nat
  | .region i _ _ => i
  | .seq a _ => firstReg a
  | .cond _ a _ => firstReg a
  | .block _ a => firstReg a
  | .loop a => firstReg a
  | .rangeFunc _ _ a _ => firstReg a
  | .scope a => firstReg a
  | _ => 0

abbrev LoopT := Nat → Option LoopF

def putSlots : Env → List (Tmp × AV) → Env
  | env, [] => env
  | env, (t, v) :: r => putSlots (env.set t v) r

def acode {R : Type} (P : Program) (CALL : CallT) (LS : LoopT) : Code → Env → AHeap → (AEx → Env → AHeap → Option R) → Option R
  | .skip, env, h, K => K .norm env h
  | .label _, env, h, K => K .norm env h
  | .region _ ops draw, env, h, K =>
    if draw then (if drawOk P ops.toList env.length = true then adraw P CALL ops.toList (List.range ops.toList.length) env h [] fun T env h => alooks P ops.toList T (unordered P ops.toList) (K .norm env h) else none)
    else aops P CALL ops.toList (List.range ops.toList.length) env h fun env h => K .norm env h
  | .seq a b, env, h, K => acode P CALL LS a env h fun e env h => match e with
    | .norm => acode P CALL LS b env h K
    | e => K e env h
  | .cond c a b, env, h, K =>
    match aev env c with
    | .bool t => if t = true then acode P CALL LS a env h K else acode P CALL LS b env h K
    | _ => none
  | .block i c, env, h, K => acode P CALL LS c env h fun e env h => match e with
    | .exit j => if j = i then K .norm env h else K (.exit j) env h
    | e => K e env h
  | .loop c, env, h, K =>
    match LS (firstReg c) with
    | some s => s.run env h K
    | none => none
  | .rangeFunc g ps a c, env, h, K =>
    match aev env g with
    | .fn (.func id) cap =>
      CALL.run (.func id) (.fn (.yield h.length) [] :: cap) (h ++ [.lp { st := .ready, pend := none, env := env, ps := ps.toList, asg := a, body := c }]) fun _ h2 =>
        match h2[h.length]? with
        | some (.lp L) =>
          if L.st = .busy then none else
          match L.pend with
          | none => K .norm env (h2.set h.length (.lp { L with st := .exhausted }))
          | some e => K e env (h2.set h.length (.lp { L with st := .exhausted }))
        | _ => none
    | _ => none
  | .exit i, env, h, K => K (.exit i) env h
  | .ret, env, h, K => K .ret env h
  | _, _, _, _ => none

def aresults (P : Program) (env : Env) (h : AHeap) : List ResultVar → Option (List AV)
  | [] => some []
  | .tmp t :: r => (aresults P env h r).map fun l => env.getD t (.tup []) :: l
  | .cell a t :: r => (aload P h t (env.getD a (.tup []))).bind fun v => (aresults P env h r).map fun l => v :: l

def aone : List AV → AV
  | [v] => v
  | l => .tup l

/-- A function's body, on arguments. -/
def abody {R : Type} (P : Program) (CALL : CallT) (LS : LoopT) (f : FuncId) (args : List AV) (h : AHeap) (K : AV → AHeap → Option R) : Option R :=
  match P.funcs[f]? with
  | some fn =>
    match fn.body with
    | some c =>
      if fn.name = "runtime.NumGoroutine" then none else
      acode P CALL LS c (args ++ List.replicate (fn.ntmps - args.length) (.tup [])) h fun e env h =>
        match e with
        | .exit _ => none
        | _ => (aresults P env h fn.results.toList).bind fun l => K (aone l) h
    | none => none
  | none => none

/-- Code without a loop of whatever kind. -/
def quiet : Code → Bool
  | .seq a b => quiet a && quiet b
  | .cond _ a b => quiet a && quiet b
  | .block _ a => quiet a
  | .loop _ => false
  | .rangeFunc .. => false
  | .scope _ => false
  | _ => true

/-- A round of a loop over a function: what yield does. -/
def around {R : Type} (P : Program) (CALL : CallT) (l : Nat) (args : List AV) (h : AHeap) (K : AV → AHeap → Option R) : Option R :=
  match h[l]? with
  | some (.lp L) =>
    if L.st = .ready ∧ args.length = L.ps.length ∧ quiet L.asg = true ∧ quiet L.body = true then
      acode P CALL (fun _ => none) L.asg (putSlots L.env (L.ps.zip args)) h fun e env h =>
        match e with
        | .norm =>
          match h[l]? with
          | some (.lp L1) =>
            if L1.st = .ready then
            acode P CALL (fun _ => none) L.body env (h.set l (.lp { L1 with st := .busy })) fun e _ h =>
              match h[l]? with
              | some (.lp L2) =>
                match e with
                | .norm => K (.bool true) (h.set l (.lp { L2 with st := .ready, pend := none }))
                | e => K (.bool false) (h.set l (.lp { L2 with st := .done, pend := some e }))
              | _ => none
            else none
          | _ => none
        | _ => none
    else none
  | _ => none

def keepSlots : List Bool → Env → Env
  | b :: bs, v :: env => (if b then v else .any) :: keepSlots bs env
  | [], env => env
  | _, [] => []

/-- A loop, so many rounds at most; at each round's head, and behind it, only some slots are known. -/
def loopN (body : Env → AHeap → Option (AEx × Env × AHeap)) (keep : List Bool) : Nat → Env → AHeap → Option (AEx × Env × AHeap)
  | 0, _, _ => none
  | j + 1, env, h => (body (keepSlots keep env) h).bind fun x =>
    match x.1 with
    | .norm => loopN body keep j x.2.1 x.2.2
    | e => some (e, keepSlots keep x.2.1, x.2.2)

end Go.Abs
